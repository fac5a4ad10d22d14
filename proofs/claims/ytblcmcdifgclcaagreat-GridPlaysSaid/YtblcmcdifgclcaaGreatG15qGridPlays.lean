/- GridPlays: what its proof leads to. No condition. -/
import Derived.Test.YtblcmcdifgclcaaGreatG13qGridPlays
import Derived.Test.YtblcmcdifgclcaaGreatG14qGridPlays
import Derived.Test.YtblcmcdifgclcaaGreatG6qGridPlays
namespace Go.Proofs.YtblcmcdifgclcaaGreat.PGridPlays
open Go.RowKit Go.Proofs.YtblcmcdifgclcaaGreatW.PrintWords Go.Proofs.YtblcmcdifgclcaaGreatW.PrintLast Go.Proofs.YtblcmcdifgclcaaGreatW.PrintMore
attribute [local go_sem] isSome_setCell max2_int min2_int max_two min_two
set_option linter.unusedVariables false
set_option linter.unusedSimpArgs false
def slices_Index_rune_rune.l0 : Nat → List Int → Int → Int → Int → Option (Int)
 | 0, _, _, _, _ => none
 | k + 1, x0, x1, x7, x8 => if x8 < x7 then (if 0 ≤ x8 then (if x8 < (x0.length : Int) then (if x1 = (rd x0 x8) then (some x8) else (slices_Index_rune_rune.l0 k x0 x1 x7 (wrap64 (x8 + 1)))) else (none)) else (none)) else (some (-1))
def slices_Index_rune_rune.f (k : Nat) (l0 : List Int) (a1 : Int) : Option (Int) := slices_Index_rune_rune.l0 k l0 a1 (l0.length : Int) 0
set_option maxHeartbeats 8000000 in
set_option maxRecDepth 100000 in
theorem slices_Index_rune_rune.calls (k : Nat) (A0 : Option Addr) (c0 : Nat) (l0 : List Int) (a1 : Int) (r : Int) (w : World) (hr0 : Kd.C (Kd.int .i32) w A0 l0.length l0) (hc0 : l0.length ≤ c0) (h : slices_Index_rune_rune.f k l0 a1 = some r) :
 Calls Tryz.prog 106 #[.slice A0 l0.length c0, .int .i32 a1] w fun e w' => e = .returned (.int .i64 r) ∧ Drawn0 w w' := by
 have HR0 := aS hr0
 have HC0 := aS hc0
 clear hr0 hc0
 have H : (slices_Index_rune_rune.l0 k l0 a1 (l0.length : Int) 0) = some r := h
 clear h
 have H' := aS H
 clear H
 go_enter Tryz.func106, Tryz.ntmps106
 go_wp2
 go_loopg [8] k (fun kq v8 w' => ∃ (x8_1 : Int), v8 = .int .i64 x8_1 ∧ Aside0 (slices_Index_rune_rune.l0 kq l0 a1 (l0.length : Int) x8_1 = some r) ∧ Aside0 (kq ≤ k) ∧ Drawn0 w w')
 case atStart => exact ⟨(0), fS, H', ⟨Nat.le_refl _⟩, by repeat (first | exact Drawn0.refl _ | apply Drawn0.step)⟩
 case round =>
  clear H'
  try clear c1
  try clear p2
  obtain ⟨x8_1, rfl, HA, HK1, ⟨m1, rfl⟩⟩ := hrel
  cases gk with
  | zero => exact absurd HA.out (by simp [slices_Index_rune_rune.l0])
  | succ k1 =>
   have H := HA.out
   clear HA
   simp only [slices_Index_rune_rune.l0] at H
   by_cases c3 : x8_1 < (l0.length : Int)
   ·rw [if_pos c3] at H
    have c3b0 : decide (x8_1 < (l0.length : Int)) = true := decide_eq_true c3
    clear c3
    obtain ⟨c4, H⟩ := ifS H
    have c4b0 : decide (0 ≤ x8_1) = true := decide_eq_true c4
    clear c4
    obtain ⟨c5, H⟩ := ifS H
    have c5b0 : decide (x8_1 < (l0.length : Int)) = true := decide_eq_true c5
    clear c5
    by_cases c6 : a1 = (rd l0 x8_1)
    ·rw [if_pos c6] at H
     have c6b0 : (a1 == (rd l0 x8_1)) = true := beq_iff_eq.mpr c6
     have c6b1 : (a1 != (rd l0 x8_1)) = false := bne_eq_false_iff_eq.mpr c6
     clear c6
     obtain rfl := Option.some.inj H
     have p149 : 0 ≤ (x8_1 : Int) := dA
     have q149 : x8_1 < (l0.length : Int) := dA
     obtain ⟨ad149, e149, hx149_0⟩ := Kd.at_int HR0.out x8_1 p149 q149
     cases e149
     replace p149 := eq_true p149
     replace q149 := eq_true q149
     go_wp2
     go_ret
     exact ⟨by first | rfl | (simp; done) | (simp [*]; done), by repeat (first | exact Drawn0.refl _ | apply Drawn0.step)⟩
    ·rw [if_neg c6] at H
     have c6b0 : (a1 == (rd l0 x8_1)) = false := beq_eq_false_iff_ne.mpr c6
     have c6b1 : (a1 != (rd l0 x8_1)) = true := bne_iff_ne.mpr c6
     have H' := aS H
     clear H
     have p149 : 0 ≤ (x8_1 : Int) := dA
     have q149 : x8_1 < (l0.length : Int) := dA
     obtain ⟨ad149, e149, hx149_0⟩ := Kd.at_int HR0.out x8_1 p149 q149
     cases e149
     replace p149 := eq_true p149
     replace q149 := eq_true q149
     go_wp2
     go_roundg k1
     case measure => have := HK1.out; omega
     case rel => exact ⟨(wrap64 (x8_1 + 1)), fS, H', ⟨by have := HK1.out; omega⟩, by repeat (first | exact Drawn0.refl _ | apply Drawn0.step)⟩
   ·rw [if_neg c3] at H
    have c3b0 : decide (x8_1 < (l0.length : Int)) = false := decide_eq_false c3
    clear c3
    obtain rfl := Option.some.inj H
    go_wp2
    go_ret
    exact ⟨by first | rfl | (simp; done) | (simp [*]; done), by repeat (first | exact Drawn0.refl _ | apply Drawn0.step)⟩
def cell_Mark.f (a0_0 : Int) (a0_1 : Int) (a0_2 : Int) (a0_3 : Int) (a0_4 : Int) (a0_5 : Int) (a0_6 : Int) (a1 : Int) : Option (Int × Int × Int × Int × Int × Int × Int × Bool) := some (markC a0_0 a0_1 a0_2 a0_3 a0_4 a0_5 a0_6 a1)
theorem cell_Mark.calls (a0_0 : Int) (a0_1 : Int) (a0_2 : Int) (a0_3 : Int) (a0_4 : Int) (a0_5 : Int) (a0_6 : Int) (a1 : Int) (r1 : Int) (r2 : Int) (r3 : Int) (r4 : Int) (r5 : Int) (r6 : Int) (r7 : Int) (r8 : Bool) (w : World) (h : cell_Mark.f a0_0 a0_1 a0_2 a0_3 a0_4 a0_5 a0_6 a1 = some (r1, r2, r3, r4, r5, r6, r7, r8)) :
 Calls Tryz.prog 96 #[.agg #[.int .i32 a0_0, .int .i32 a0_1, .int .i32 a0_2, .int .u8 a0_3, .int .u8 a0_4, .int .u8 a0_5, .int .u8 a0_6], .int .i32 a1] w fun e w' => e = .returned (.tuple #[.agg #[.int .i32 r1, .int .i32 r2, .int .i32 r3, .int .u8 r4, .int .u8 r5, .int .u8 r6, .int .u8 r7], .bool r8]) ∧ Below w.heap.size w w' := by
 have hI : Index2 Tryz.prog 106 := fun c1 c2 A w hC => by
  have h : slices_Index_rune_rune.f 4 [c1, c2] 0 = some (index2 c1 c2) := by
   unfold index2
   by_cases h1 : c1 = 0
   ·simp [slices_Index_rune_rune.f, slices_Index_rune_rune.l0, rd, h1]
   ·by_cases h2 : c2 = 0
    ·simp [slices_Index_rune_rune.f, slices_Index_rune_rune.l0, rd, h1, Ne.symm h1, h2, wrap64]
    ·simp [slices_Index_rune_rune.f, slices_Index_rune_rune.l0, rd, h1, h2, Ne.symm h1, Ne.symm h2, wrap64]
  refine (slices_Index_rune_rune.calls 4 A 2 [c1, c2] 0 _ w hC (by simp) h).mono ?_
  rintro e w' ⟨rfl, ⟨nd, hd⟩⟩
  exact ⟨rfl, nd, hd⟩
 exact mark_walk hI (fun r w => width_Mark.calls r _ w rfl) _ _ _ _ _ _ _ _ _ _ _ _ _ _ _ _ w (Option.some.inj h)
def line_Mark.j0 : Nat → List (S40) → Int → Int → List (S40) → Bool → Option ((List (S40)) × Bool)
 | 0, _, _, _, _, _ => none
 | k + 1, x0, x1, x2, x8, x20 => if x20 = true then (some (x8, false)) else (if 0 ≤ x1 then (if x1 < (x0.length : Int) then (if ((rd_T40 x0 x1).f2) = 0 then (if x1 > 0 then (if 0 ≤ (wrap64 (x1 - 1)) then (if (wrap64 (x1 - 1)) < (x0.length : Int) then (if ((rd_T40 x0 (wrap64 (x1 - 1))).f2) = 2 then ((cell_Mark.f ((rd_T40 x0 (wrap64 (x1 - 1))).f0) ((rd_T40 x0 (wrap64 (x1 - 1))).f1.f0) ((rd_T40 x0 (wrap64 (x1 - 1))).f1.f1) ((rd_T40 x0 (wrap64 (x1 - 1))).f2) ((rd_T40 x0 (wrap64 (x1 - 1))).f3.f0) ((rd_T40 x0 (wrap64 (x1 - 1))).f3.f1) ((rd_T40 x0 (wrap64 (x1 - 1))).f3.f2) x2).bind fun bt160 => (if (wrap64 (x1 - 1)) < (x8.length : Int) then (some ((x8.set ((wrap64 (x1 - 1)) : Int).toNat (⟨bt160.1, (⟨bt160.2.1, bt160.2.2.1⟩ : S36), bt160.2.2.2.1, (⟨bt160.2.2.2.2.1, bt160.2.2.2.2.2.1, bt160.2.2.2.2.2.2.1⟩ : S38)⟩ : S40)), bt160.2.2.2.2.2.2.2)) else (none))) else ((cell_Mark.f ((rd_T40 x0 x1).f0) ((rd_T40 x0 x1).f1.f0) ((rd_T40 x0 x1).f1.f1) ((rd_T40 x0 x1).f2) ((rd_T40 x0 x1).f3.f0) ((rd_T40 x0 x1).f3.f1) ((rd_T40 x0 x1).f3.f2) x2).bind fun bt171 => (if x1 < (x8.length : Int) then (some ((x8.set (x1 : Int).toNat (⟨bt171.1, (⟨bt171.2.1, bt171.2.2.1⟩ : S36), bt171.2.2.2.1, (⟨bt171.2.2.2.2.1, bt171.2.2.2.2.2.1, bt171.2.2.2.2.2.2.1⟩ : S38)⟩ : S40)), bt171.2.2.2.2.2.2.2)) else (none)))) else (none)) else (none)) else ((cell_Mark.f ((rd_T40 x0 x1).f0) ((rd_T40 x0 x1).f1.f0) ((rd_T40 x0 x1).f1.f1) ((rd_T40 x0 x1).f2) ((rd_T40 x0 x1).f3.f0) ((rd_T40 x0 x1).f3.f1) ((rd_T40 x0 x1).f3.f2) x2).bind fun bt182 => (if x1 < (x8.length : Int) then (some ((x8.set (x1 : Int).toNat (⟨bt182.1, (⟨bt182.2.1, bt182.2.2.1⟩ : S36), bt182.2.2.2.1, (⟨bt182.2.2.2.2.1, bt182.2.2.2.2.2.1, bt182.2.2.2.2.2.2.1⟩ : S38)⟩ : S40)), bt182.2.2.2.2.2.2.2)) else (none)))) else ((cell_Mark.f ((rd_T40 x0 x1).f0) ((rd_T40 x0 x1).f1.f0) ((rd_T40 x0 x1).f1.f1) ((rd_T40 x0 x1).f2) ((rd_T40 x0 x1).f3.f0) ((rd_T40 x0 x1).f3.f1) ((rd_T40 x0 x1).f3.f2) x2).bind fun bt193 => (if x1 < (x8.length : Int) then (some ((x8.set (x1 : Int).toNat (⟨bt193.1, (⟨bt193.2.1, bt193.2.2.1⟩ : S36), bt193.2.2.2.1, (⟨bt193.2.2.2.2.1, bt193.2.2.2.2.2.1, bt193.2.2.2.2.2.2.1⟩ : S38)⟩ : S40)), bt193.2.2.2.2.2.2.2)) else (none)))) else (none)) else (none))
def line_Mark.f (k : Nat) (l0 : List (S40)) (a1 : Int) (a2 : Int) : Option ((List (S40)) × Bool) := (cell_Cell_52.f l0).bind fun t154 => (if a1 < 0 then (line_Mark.j0 k l0 a1 a2 t154 true) else (line_Mark.j0 k l0 a1 a2 t154 (decide (a1 ≥ (l0.length : Int)))))
set_option maxHeartbeats 8000000 in
set_option maxRecDepth 100000 in
theorem line_Mark.calls (k : Nat) (A0 : Option Addr) (c0 : Nat) (l0 : List (S40)) (a1 : Int) (a2 : Int) (r1 : List (S40)) (r2 : Bool) (w : World) (hr0 : Kd.C k40 w A0 l0.length l0) (hc0 : l0.length ≤ c0) (h : line_Mark.f k l0 a1 a2 = some (r1, r2)) :
 Calls Tryz.prog 69 #[.slice A0 l0.length c0, .int .i64 a1, .int .i32 a2] w fun e w' => ∃ v0_ : Value, e = .returned (.tuple #[v0_, .bool r2]) ∧ Kd.R k40 40 w' w.heap.size (fun _ => True) v0_ r1 ∧ Below w.heap.size w w' := by
 have hu40 := Tryz.underlying40
 have HR0 := aS hr0
 have HC0 := aS hc0
 clear hr0 hc0
 have HB := aS (Below.refl w.heap.size w)
 have H : ((cell_Cell_52.f l0).bind fun t154 => (if a1 < 0 then (line_Mark.j0 k l0 a1 a2 t154 true) else (line_Mark.j0 k l0 a1 a2 t154 (decide (a1 ≥ (l0.length : Int)))))) = some (r1, r2) := h
 clear h
 replace H := Option.bind_eq_some_iff.mp H
 obtain ⟨t154, A40, H⟩ := H
 try dsimp only at H
 have A4 := aS A40
 clear A40
 have HC5 := aS H
 clear H
 go_enter Tryz.func69, Tryz.ntmps69
 go_upto_region 2 with (first | (refine gL 52 12 Tryz.func52 #[.slice A0 l0.length c0] ?_; (with_reducible refine (cell_Cell_52.calls _ _ l0 t154 _ ?side1 ?side2 A4.out).mono ?_); (case side1 => repeat (first | exact HR0.out | (with_reducible refine Kd.C_alloc ?_ _) | (with_reducible refine Kd.C_drewN ?_ _) | (with_reducible refine Kd.C_drew ?_))); (case side2 => exact HC0.out); rintro e w6 ⟨v155, rfl, ho0, hb⟩; refine ⟨_, rfl, ?_⟩; have HO156 := aS (Kd.R_lower ho0 (below_size bB)); replace HB := aS (below_step bB hb); (try clear hb); (try clear hb2); (try clear hk); (try clear hi); (try clear ho0)))
 (try simp only [Act.put, List.setIfInBounds_toArray, List.set_cons_zero, List.set_cons_succ])
 go_cut [20] (fun v20 wc => ∃ (kq : Nat) (x20_4 : Bool), v20 = .bool x20_4 ∧ Aside0 (line_Mark.j0 kq l0 a1 a2 t154 x20_4 = some (r1, r2)) ∧ Aside0 (kq ≤ k) ∧ Aside0 (Kd.R k40 40 wc w.heap.size (fun _ => True) v155 t154) ∧ Aside0 (Below w.heap.size w wc))
 case first =>
  have H := HC5.out
  clear HC5
  by_cases c7 : a1 < 0
  ·rw [if_pos c7] at H
   have c7b0 : decide (a1 < 0) = true := decide_eq_true c7
   clear c7
   (first | rw [c7b0] | (simp only [i64_w, i32_w]; rw [c7b0]) | skip)
   have H' := aS H
   clear H
   go_wp2
   go_meet
   case rel => exact ⟨_, (true), fS, H', ⟨by first | omega | exact Nat.le_refl _⟩, ⟨rr HO156⟩, ⟨bB⟩⟩
  ·rw [if_neg c7] at H
   have c7b0 : decide (a1 < 0) = false := decide_eq_false c7
   clear c7
   (first | rw [c7b0] | (simp only [i64_w, i32_w]; rw [c7b0]) | skip)
   have H' := aS H
   clear H
   go_wp2
   go_meet
   case rel => exact ⟨_, (decide (a1 ≥ (l0.length : Int))), fS, H', ⟨by first | omega | exact Nat.le_refl _⟩, ⟨rr HO156⟩, ⟨bB⟩⟩
 case rest =>
  clear HC5
  try clear p2
  try clear c5
  try clear c6
  try clear c7
  try clear c7b0
  obtain ⟨kq, x20_4, rfl, HA, HJ4, HO_8, HB⟩ := hcut
  cases kq with
  | zero => exact absurd HA.out (by simp [line_Mark.j0])
  | succ kj4 =>
   have H := HA.out
   clear HA
   simp only [line_Mark.j0] at H
   by_cases c8 : x20_4 = true
   ·subst c8
    have H1 : (some (t154, false)) = some (r1, r2) := by rw [if_pos rfl] at H; exact H
    clear H
    have H := H1
    clear H1
    simp only [Option.some.injEq, Prod.mk.injEq] at H
    obtain ⟨rfl, rfl⟩ := H
    go_wp2
    go_ret2
    exact ⟨_, by first | rfl | (simp <;> rfl) | (simp [*] <;> rfl), rr HO_8, bB⟩
   ·replace c8 := Bool.eq_false_iff.mpr c8
    subst c8
    have H1 : (if 0 ≤ a1 then (if a1 < (l0.length : Int) then (if ((rd_T40 l0 a1).f2) = 0 then (if a1 > 0 then (if 0 ≤ (wrap64 (a1 - 1)) then (if (wrap64 (a1 - 1)) < (l0.length : Int) then (if ((rd_T40 l0 (wrap64 (a1 - 1))).f2) = 2 then ((cell_Mark.f ((rd_T40 l0 (wrap64 (a1 - 1))).f0) ((rd_T40 l0 (wrap64 (a1 - 1))).f1.f0) ((rd_T40 l0 (wrap64 (a1 - 1))).f1.f1) ((rd_T40 l0 (wrap64 (a1 - 1))).f2) ((rd_T40 l0 (wrap64 (a1 - 1))).f3.f0) ((rd_T40 l0 (wrap64 (a1 - 1))).f3.f1) ((rd_T40 l0 (wrap64 (a1 - 1))).f3.f2) a2).bind fun bt160 => (if (wrap64 (a1 - 1)) < (t154.length : Int) then (some ((t154.set ((wrap64 (a1 - 1)) : Int).toNat (⟨bt160.1, (⟨bt160.2.1, bt160.2.2.1⟩ : S36), bt160.2.2.2.1, (⟨bt160.2.2.2.2.1, bt160.2.2.2.2.2.1, bt160.2.2.2.2.2.2.1⟩ : S38)⟩ : S40)), bt160.2.2.2.2.2.2.2)) else (none))) else ((cell_Mark.f ((rd_T40 l0 a1).f0) ((rd_T40 l0 a1).f1.f0) ((rd_T40 l0 a1).f1.f1) ((rd_T40 l0 a1).f2) ((rd_T40 l0 a1).f3.f0) ((rd_T40 l0 a1).f3.f1) ((rd_T40 l0 a1).f3.f2) a2).bind fun bt171 => (if a1 < (t154.length : Int) then (some ((t154.set (a1 : Int).toNat (⟨bt171.1, (⟨bt171.2.1, bt171.2.2.1⟩ : S36), bt171.2.2.2.1, (⟨bt171.2.2.2.2.1, bt171.2.2.2.2.2.1, bt171.2.2.2.2.2.2.1⟩ : S38)⟩ : S40)), bt171.2.2.2.2.2.2.2)) else (none)))) else (none)) else (none)) else ((cell_Mark.f ((rd_T40 l0 a1).f0) ((rd_T40 l0 a1).f1.f0) ((rd_T40 l0 a1).f1.f1) ((rd_T40 l0 a1).f2) ((rd_T40 l0 a1).f3.f0) ((rd_T40 l0 a1).f3.f1) ((rd_T40 l0 a1).f3.f2) a2).bind fun bt182 => (if a1 < (t154.length : Int) then (some ((t154.set (a1 : Int).toNat (⟨bt182.1, (⟨bt182.2.1, bt182.2.2.1⟩ : S36), bt182.2.2.2.1, (⟨bt182.2.2.2.2.1, bt182.2.2.2.2.2.1, bt182.2.2.2.2.2.2.1⟩ : S38)⟩ : S40)), bt182.2.2.2.2.2.2.2)) else (none)))) else ((cell_Mark.f ((rd_T40 l0 a1).f0) ((rd_T40 l0 a1).f1.f0) ((rd_T40 l0 a1).f1.f1) ((rd_T40 l0 a1).f2) ((rd_T40 l0 a1).f3.f0) ((rd_T40 l0 a1).f3.f1) ((rd_T40 l0 a1).f3.f2) a2).bind fun bt193 => (if a1 < (t154.length : Int) then (some ((t154.set (a1 : Int).toNat (⟨bt193.1, (⟨bt193.2.1, bt193.2.2.1⟩ : S36), bt193.2.2.2.1, (⟨bt193.2.2.2.2.1, bt193.2.2.2.2.2.1, bt193.2.2.2.2.2.2.1⟩ : S38)⟩ : S40)), bt193.2.2.2.2.2.2.2)) else (none)))) else (none)) else (none)) = some (r1, r2) := by rw [if_neg (show ¬ (false = true) by decide)] at H; exact H
    clear H
    have H := H1
    clear H1
    obtain ⟨c9, H⟩ := ifS H
    have c9b0 : decide (0 ≤ a1) = true := decide_eq_true c9
    clear c9
    obtain ⟨c10, H⟩ := ifS H
    have c10b0 : decide (a1 < (l0.length : Int)) = true := decide_eq_true c10
    clear c10
    by_cases c11 : ((rd_T40 l0 a1).f2) = 0
    ·rw [if_pos c11] at H
     have c11b0 : (((rd_T40 l0 a1).f2) == 0) = true := beq_iff_eq.mpr c11
     have c11b1 : (((rd_T40 l0 a1).f2) != 0) = false := bne_eq_false_iff_eq.mpr c11
     clear c11
     by_cases c12 : a1 > 0
     ·rw [if_pos c12] at H
      have c12b0 : decide (0 < a1) = true := decide_eq_true c12
      clear c12
      obtain ⟨ji13, hji13⟩ : ∃ j_ : Int, (wrap64 (a1 - 1)) = j_ := ⟨_, rfl⟩
      replace H : (if 0 ≤ (ji13) then (if (ji13) < (l0.length : Int) then (if ((rd_T40 l0 (ji13)).f2) = 2 then ((cell_Mark.f ((rd_T40 l0 (ji13)).f0) ((rd_T40 l0 (ji13)).f1.f0) ((rd_T40 l0 (ji13)).f1.f1) ((rd_T40 l0 (ji13)).f2) ((rd_T40 l0 (ji13)).f3.f0) ((rd_T40 l0 (ji13)).f3.f1) ((rd_T40 l0 (ji13)).f3.f2) a2).bind fun bt160 => (if (ji13) < (t154.length : Int) then (some ((t154.set ((ji13) : Int).toNat (⟨bt160.1, (⟨bt160.2.1, bt160.2.2.1⟩ : S36), bt160.2.2.2.1, (⟨bt160.2.2.2.2.1, bt160.2.2.2.2.2.1, bt160.2.2.2.2.2.2.1⟩ : S38)⟩ : S40)), bt160.2.2.2.2.2.2.2)) else (none))) else ((cell_Mark.f ((rd_T40 l0 a1).f0) ((rd_T40 l0 a1).f1.f0) ((rd_T40 l0 a1).f1.f1) ((rd_T40 l0 a1).f2) ((rd_T40 l0 a1).f3.f0) ((rd_T40 l0 a1).f3.f1) ((rd_T40 l0 a1).f3.f2) a2).bind fun bt171 => (if a1 < (t154.length : Int) then (some ((t154.set (a1 : Int).toNat (⟨bt171.1, (⟨bt171.2.1, bt171.2.2.1⟩ : S36), bt171.2.2.2.1, (⟨bt171.2.2.2.2.1, bt171.2.2.2.2.2.1, bt171.2.2.2.2.2.2.1⟩ : S38)⟩ : S40)), bt171.2.2.2.2.2.2.2)) else (none)))) else (none)) else (none)) = some (r1, r2) := by first | (rw [hji13] at H; exact H) | (simp only [hji13] at H ⊢; exact H)
      have hji13w : (IntKind.i64.wrap (a1 - 1)) = ji13 := (i64_w _).trans hji13
      obtain ⟨c14, H⟩ := ifS H
      have c14b0 : decide (0 ≤ (ji13)) = true := decide_eq_true c14
      clear c14
      obtain ⟨c15, H⟩ := ifS H
      have c15b0 : decide ((ji13) < (l0.length : Int)) = true := decide_eq_true c15
      clear c15
      by_cases c16 : ((rd_T40 l0 (ji13)).f2) = 2
      ·rw [if_pos c16] at H
       have c16b0 : (((rd_T40 l0 (ji13)).f2) == 2) = true := beq_iff_eq.mpr c16
       have c16b1 : (((rd_T40 l0 (ji13)).f2) != 2) = false := bne_eq_false_iff_eq.mpr c16
       clear c16
       replace H := Option.bind_eq_some_iff.mp H
       obtain ⟨⟨t160, t161, t162, t163, t164, t165, t166, t167⟩, A170, H⟩ := H
       try dsimp only at H
       have A17 := aS A170
       clear A170
       obtain ⟨c18, H⟩ := ifS H
       have c18b0 : decide ((ji13) < (t154.length : Int)) = true := decide_eq_true c18
       clear c18
       obtain ⟨y169, hy169⟩ : ∃ y_ : List (S40), y_ = (t154.set ((ji13) : Int).toNat (⟨t160, (⟨t161, t162⟩ : S36), t163, (⟨t164, t165, t166⟩ : S38)⟩ : S40)) := ⟨_, rfl⟩
       replace H : (some (y169, t167)) = some (r1, r2) := rq hy169 H
       have Ny169 := aS hy169
       clear hy169
       simp only [Option.some.injEq, Prod.mk.injEq] at H
       obtain ⟨rfl, rfl⟩ := H
       have p157 : 0 ≤ (a1 : Int) := dA
       have q157 : a1 < (l0.length : Int) := dA
       obtain ⟨ad157, e157, hx157_0, hx157_1, hx157_2, hx157_3, hx157_4, hx157_5, hx157_6⟩ := at_T40 HR0.out a1 p157 q157
       cases e157
       replace hx157_0 := xc HB hx157_0
       replace hx157_1 := xc HB hx157_1
       replace hx157_2 := xc HB hx157_2
       replace hx157_3 := xc HB hx157_3
       replace hx157_4 := xc HB hx157_4
       replace hx157_5 := xc HB hx157_5
       replace hx157_6 := xc HB hx157_6
       replace p157 := eq_true p157
       replace q157 := eq_true q157
       have p158 : 0 ≤ ((ji13) : Int) := dA
       have q158 : (ji13) < (l0.length : Int) := dA
       obtain ⟨ad158, e158, hx158_0, hx158_1, hx158_2, hx158_3, hx158_4, hx158_5, hx158_6⟩ := at_T40 HR0.out (ji13) p158 q158
       obtain rfl : ad157 = ad158 := (by injection e158)
       replace hx158_0 := xc HB hx158_0
       replace hx158_1 := xc HB hx158_1
       replace hx158_2 := xc HB hx158_2
       replace hx158_3 := xc HB hx158_3
       replace hx158_4 := xc HB hx158_4
       replace hx158_5 := xc HB hx158_5
       replace hx158_6 := xc HB hx158_6
       replace p158 := eq_true p158
       replace q158 := eq_true q158
       have p159 : 0 ≤ ((ji13) : Int) := dA
       have q159 : (ji13) < (l0.length : Int) := dA
       obtain ⟨ad159, e159, hx159_0, hx159_1, hx159_2, hx159_3, hx159_4, hx159_5, hx159_6⟩ := at_T40 HR0.out (ji13) p159 q159
       obtain rfl : ad157 = ad159 := (by injection e159)
       replace hx159_0 := xc HB hx159_0
       replace hx159_1 := xc HB hx159_1
       replace hx159_2 := xc HB hx159_2
       replace hx159_3 := xc HB hx159_3
       replace hx159_4 := xc HB hx159_4
       replace hx159_5 := xc HB hx159_5
       replace hx159_6 := xc HB hx159_6
       replace p159 := eq_true p159
       replace q159 := eq_true q159
       go_wp2_with (first | ((with_reducible refine gate_callee (f := 96) rfl ?_); refine goesL_ (some 49) rfl rfl Tryz.func96 (by kernel_rfl) rfl #[.agg #[.int .i32 ((rd_T40 l0 (ji13)).f0), .int .i32 ((rd_T40 l0 (ji13)).f1.f0), .int .i32 ((rd_T40 l0 (ji13)).f1.f1), .int .u8 ((rd_T40 l0 (ji13)).f2), .int .u8 ((rd_T40 l0 (ji13)).f3.f0), .int .u8 ((rd_T40 l0 (ji13)).f3.f1), .int .u8 ((rd_T40 l0 (ji13)).f3.f2)], .int .i32 a2] rfl (by (try simp only [List.map_toArray, List.map_cons, List.map_nil]); first | done | (simp only [hji13]; rfl) | rfl | (simp only [List.length_drop, List.length_take]; rfl)) ?_; (with_reducible refine (cell_Mark.calls ((rd_T40 l0 (ji13)).f0) ((rd_T40 l0 (ji13)).f1.f0) ((rd_T40 l0 (ji13)).f1.f1) ((rd_T40 l0 (ji13)).f2) ((rd_T40 l0 (ji13)).f3.f0) ((rd_T40 l0 (ji13)).f3.f1) ((rd_T40 l0 (ji13)).f3.f2) a2 t160 t161 t162 t163 t164 t165 t166 t167 _ A17.out).mono ?_); rintro e w20 ⟨rfl, hb⟩; refine ⟨_, rfl, ?_⟩; replace HO_8 := aS (Kd.R_below (rr HO_8) hb); replace HB := aS (below_step bB hb); (try clear hb); (try clear hb2); (try clear hk); (try clear hi)) | ((with_reducible refine gate_dst (N := 9) rfl ?_); (try (refine gate_guard (by rfl) ?_; dsimp only)); refine bx 9 #[.int .i32 0, .int .i32 0, .int .i32 0, .int .u8 0, .int .u8 0, .int .u8 0, .int .u8 0] 40 ?_; intro gb168 hg w21 hbox hb; replace HO_8 := aS (Kd.R_below (Kd.R_elderB (rr HO_8) gb168 (Nat.le_of_eq hg.symm)) hb); have BK168 := aS (hbox); have GW168 := aS (gw HB hg); have GE168 := aS (gw HB hg); replace HB := aS (below_step bB hb); clear hb hbox hg; have hz22 := cel7 BK168.out) | ((with_reducible refine gate_store (t := 40) (p := 9) rfl ?_); refine store_event (t := 40) (p := 9) (v := ?vo_w23) (w1 := (((((((w21.setCell ⟨gb168, 0, none⟩ (.int .i32 t160)).setCell ⟨gb168, 1, none⟩ (.int .i32 t161)).setCell ⟨gb168, 2, none⟩ (.int .i32 t162)).setCell ⟨gb168, 3, none⟩ (.int .u8 t163)).setCell ⟨gb168, 4, none⟩ (.int .u8 t164)).setCell ⟨gb168, 5, none⟩ (.int .u8 t165)).setCell ⟨gb168, 6, none⟩ (.int .u8 t166))) ?hg ?ho ?hn ?hr ?_; (case ho => rfl); (case hg => rfl); (case hn => rfl); (case hr => first | (go_simp; done) | (go_simp; rfl)); intro w23 hw; have n0_ : Aside0 (Kd.R k40 40 w23 w.heap.size (fun k_ => k_ ≠ gb168) v155 t154) := ⟨(by rw [hw]; exact (by (with_reducible repeat (first | apply rA | apply rN | apply rD)); exact Kd.R_mono (rK (Kd.R_mono HO_8.out (fun k_ hk => (⟨hk, hk.2⟩ : _ ∧ k_ ≠ gb168)))) (fun _ hk => hk.1.2)))⟩; have n1_ : Aside0 (w23.heap[gb168]? = some (.cells #[.int .i32 t160, .int .i32 t161, .int .i32 t162, .int .u8 t163, .int .u8 t164, .int .u8 t165, .int .u8 t166] 40 (0, 0))) := ⟨(by rw [hw]; exact (kp BK168))⟩; have n2_ : Aside0 (Below w.heap.size w w23) := ⟨(by rw [hw]; exact bS)⟩; clear hw; clear HO_8; clear BK168; clear HB; have HO_8 := n0_; have BK168 := n1_; have HB := n2_; clear n0_ n1_ n2_; have hz24 := cel7 BK168.out; have p19 : 0 ≤ ((ji13) : Int) := dA; have q19 : ((ji13) : Int) < ((t154.length : Int) : Int) := dA; obtain ⟨go19, co19, eo19, gb19, gl19, cl19, HG19⟩ := Kd.R_form HO_8.out (by omega); (first | cases eo19 | (injection eo19 with ea_ en_ ec_; (first | subst ea_ | (injection ea_ with ea_; subst ea_)); subst ec_; clear en_)); have GB19 := aS gb19; have GG19 := aS HG19; clear gb19 gl19 HG19; obtain ⟨ce19, hcl19, hM19, hcc19, hfr19⟩ := Kd.R_elem HO_8.out z40 ((ji13) : Int) p19 q19; obtain rfl := k40_openM hM19; have hx19 := el7 hcc19 hfr19; clear hcl19 hcc19 hfr19 hM19; replace p19 := eq_true p19; replace q19 := eq_true q19; have HX25 := aS (show Kd.R k40 40 w23 w.heap.size (fun k_ => k_ ≠ gb168) (.slice (some ⟨go19, 0, none⟩) t154.length co19) t154 from (rr HO_8)); obtain ⟨ce25, hcl25, hM25, hcc25, hfr25⟩ := Kd.R_elem HX25.out z40 ((ji13) : Int) (dA) (by have h_ : ((ji13) : Int) < ((t154.length : Int) : Int) := dA; first | exact h_ | (have e_ := (Kd.R_reads' HO_8.out).1; omega) | simpa using h_); obtain rfl := k40_openM hM25; have HP25 := Kd.R_seg HX25.out ((ji13) : Int) (dA) (by have h_ : ((ji13) : Int) < ((t154.length : Int) : Int) := dA; first | exact h_ | (have e_ := (Kd.R_reads' HO_8.out).1; omega) | simpa using h_) (seg := [.int .i32 t160, .int .i32 t161, .int .i32 t162, .int .u8 t163, .int .u8 t164, .int .u8 t165, .int .u8 t166]) (j := 0) hcl25 hcc25 (show 7 ≤ 7 from by decide) (x' := (⟨t160, (⟨t161, t162⟩ : S36), t163, (⟨t164, t165, t166⟩ : S38)⟩ : S40)) (k40_mkM _ _ _ (⟨t160, (⟨t161, t162⟩ : S36), t163, (⟨t164, t165, t166⟩ : S38)⟩ : S40) ) (fun _ hk => hk); have hx25 := el7 hcc25 hfr25; clear hcl25 hcc25 hfr25 hM25) | ((with_reducible refine gate_store (t := 40) (p := 55) rfl ?_); refine store_event (t := 40) (p := 55) (v := ?vo_w26) (w1 := (((((((w23.setCell ⟨go19, ((ji13) : Int).toNat * 7, none⟩ (.int .i32 t160)).setCell ⟨go19, ((ji13) : Int).toNat * 7 + 1, none⟩ (.int .i32 t161)).setCell ⟨go19, ((ji13) : Int).toNat * 7 + 2, none⟩ (.int .i32 t162)).setCell ⟨go19, ((ji13) : Int).toNat * 7 + 3, none⟩ (.int .u8 t163)).setCell ⟨go19, ((ji13) : Int).toNat * 7 + 4, none⟩ (.int .u8 t164)).setCell ⟨go19, ((ji13) : Int).toNat * 7 + 5, none⟩ (.int .u8 t165)).setCell ⟨go19, ((ji13) : Int).toNat * 7 + 6, none⟩ (.int .u8 t166))) ?hg ?ho ?hn ?hr ?_; (case ho => rfl); (case hg => rfl); (case hn => rfl); (case hr => first | (go_simp; done) | (go_simp; rfl)); intro w26 hw; have hg : w23.grownBy w26 (some go19) := (by rw [hw]; exact HP25.2); have hp_ : Kd.R k40 40 w26 w.heap.size (fun k_ => k_ ≠ gb168) (.slice (some ⟨go19, 0, none⟩) t154.length co19) y169 := (by rw [hw, Ny169.out]; exact HP25.1); clear HP25; replace BK168 := aS (blk_grown (kb BK168) hg (Kd.R_away HO_8.out (fun _ hk => hk))); replace HO_8 := aS (hp_); replace HB := aS ((by rw [hw]; exact bS : Below w.heap.size w w26)); clear hg hw hp_))
       go_ret2
       exact ⟨_, by first | rfl | (simp <;> rfl) | (simp only [← hji13]; first | rfl | (simp <;> rfl)) | (simp [*] <;> rfl), by (with_reducible repeat (first | apply rA | apply rN | apply rD)); exact Kd.R_mono HO_8.out (fun _ hk => trivial), bS⟩
      ·rw [if_neg c16] at H
       have c16b0 : (((rd_T40 l0 (ji13)).f2) == 2) = false := beq_eq_false_iff_ne.mpr c16
       have c16b1 : (((rd_T40 l0 (ji13)).f2) != 2) = true := bne_iff_ne.mpr c16
       replace H := Option.bind_eq_some_iff.mp H
       obtain ⟨⟨t171, t172, t173, t174, t175, t176, t177, t178⟩, A270, H⟩ := H
       try dsimp only at H
       have A27 := aS A270
       clear A270
       obtain ⟨c28, H⟩ := ifS H
       have c28b0 : decide (a1 < (t154.length : Int)) = true := decide_eq_true c28
       clear c28
       obtain ⟨y180, hy180⟩ : ∃ y_ : List (S40), y_ = (t154.set (a1 : Int).toNat (⟨t171, (⟨t172, t173⟩ : S36), t174, (⟨t175, t176, t177⟩ : S38)⟩ : S40)) := ⟨_, rfl⟩
       replace H : (some (y180, t178)) = some (r1, r2) := rq hy180 H
       have Ny180 := aS hy180
       clear hy180
       simp only [Option.some.injEq, Prod.mk.injEq] at H
       obtain ⟨rfl, rfl⟩ := H
       have p157 : 0 ≤ (a1 : Int) := dA
       have q157 : a1 < (l0.length : Int) := dA
       obtain ⟨ad157, e157, hx157_0, hx157_1, hx157_2, hx157_3, hx157_4, hx157_5, hx157_6⟩ := at_T40 HR0.out a1 p157 q157
       cases e157
       replace hx157_0 := xc HB hx157_0
       replace hx157_1 := xc HB hx157_1
       replace hx157_2 := xc HB hx157_2
       replace hx157_3 := xc HB hx157_3
       replace hx157_4 := xc HB hx157_4
       replace hx157_5 := xc HB hx157_5
       replace hx157_6 := xc HB hx157_6
       replace p157 := eq_true p157
       replace q157 := eq_true q157
       have p158 : 0 ≤ ((ji13) : Int) := dA
       have q158 : (ji13) < (l0.length : Int) := dA
       obtain ⟨ad158, e158, hx158_0, hx158_1, hx158_2, hx158_3, hx158_4, hx158_5, hx158_6⟩ := at_T40 HR0.out (ji13) p158 q158
       obtain rfl : ad157 = ad158 := (by injection e158)
       replace hx158_0 := xc HB hx158_0
       replace hx158_1 := xc HB hx158_1
       replace hx158_2 := xc HB hx158_2
       replace hx158_3 := xc HB hx158_3
       replace hx158_4 := xc HB hx158_4
       replace hx158_5 := xc HB hx158_5
       replace hx158_6 := xc HB hx158_6
       replace p158 := eq_true p158
       replace q158 := eq_true q158
       have p170 : 0 ≤ (a1 : Int) := dA
       have q170 : a1 < (l0.length : Int) := dA
       obtain ⟨ad170, e170, hx170_0, hx170_1, hx170_2, hx170_3, hx170_4, hx170_5, hx170_6⟩ := at_T40 HR0.out a1 p170 q170
       obtain rfl : ad157 = ad170 := (by injection e170)
       replace hx170_0 := xc HB hx170_0
       replace hx170_1 := xc HB hx170_1
       replace hx170_2 := xc HB hx170_2
       replace hx170_3 := xc HB hx170_3
       replace hx170_4 := xc HB hx170_4
       replace hx170_5 := xc HB hx170_5
       replace hx170_6 := xc HB hx170_6
       replace p170 := eq_true p170
       replace q170 := eq_true q170
       go_wp2_with (first | (refine gL 96 49 Tryz.func96 #[.agg #[.int .i32 ((rd_T40 l0 a1).f0), .int .i32 ((rd_T40 l0 a1).f1.f0), .int .i32 ((rd_T40 l0 a1).f1.f1), .int .u8 ((rd_T40 l0 a1).f2), .int .u8 ((rd_T40 l0 a1).f3.f0), .int .u8 ((rd_T40 l0 a1).f3.f1), .int .u8 ((rd_T40 l0 a1).f3.f2)], .int .i32 a2] ?_; (with_reducible refine (cell_Mark.calls ((rd_T40 l0 a1).f0) ((rd_T40 l0 a1).f1.f0) ((rd_T40 l0 a1).f1.f1) ((rd_T40 l0 a1).f2) ((rd_T40 l0 a1).f3.f0) ((rd_T40 l0 a1).f3.f1) ((rd_T40 l0 a1).f3.f2) a2 t171 t172 t173 t174 t175 t176 t177 t178 _ A27.out).mono ?_); rintro e w30 ⟨rfl, hb⟩; refine ⟨_, rfl, ?_⟩; replace HO_8 := aS (Kd.R_below (rr HO_8) hb); replace HB := aS (below_step bB hb); (try clear hb); (try clear hb2); (try clear hk); (try clear hi)) | ((with_reducible refine gate_dst (N := 9) rfl ?_); (try (refine gate_guard (by rfl) ?_; dsimp only)); refine bx 9 #[.int .i32 0, .int .i32 0, .int .i32 0, .int .u8 0, .int .u8 0, .int .u8 0, .int .u8 0] 40 ?_; intro gb179 hg w31 hbox hb; replace HO_8 := aS (Kd.R_below (Kd.R_elderB (rr HO_8) gb179 (Nat.le_of_eq hg.symm)) hb); have BK179 := aS (hbox); have GW179 := aS (gw HB hg); have GE179 := aS (gw HB hg); replace HB := aS (below_step bB hb); clear hb hbox hg; have hz32 := cel7 BK179.out) | ((with_reducible refine gate_store (t := 40) (p := 9) rfl ?_); refine store_event (t := 40) (p := 9) (v := ?vo_w33) (w1 := (((((((w31.setCell ⟨gb179, 0, none⟩ (.int .i32 t171)).setCell ⟨gb179, 1, none⟩ (.int .i32 t172)).setCell ⟨gb179, 2, none⟩ (.int .i32 t173)).setCell ⟨gb179, 3, none⟩ (.int .u8 t174)).setCell ⟨gb179, 4, none⟩ (.int .u8 t175)).setCell ⟨gb179, 5, none⟩ (.int .u8 t176)).setCell ⟨gb179, 6, none⟩ (.int .u8 t177))) ?hg ?ho ?hn ?hr ?_; (case ho => rfl); (case hg => rfl); (case hn => rfl); (case hr => first | (go_simp; done) | (go_simp; rfl)); intro w33 hw; have n0_ : Aside0 (Kd.R k40 40 w33 w.heap.size (fun k_ => k_ ≠ gb179) v155 t154) := ⟨(by rw [hw]; exact (by (with_reducible repeat (first | apply rA | apply rN | apply rD)); exact Kd.R_mono (rK (Kd.R_mono HO_8.out (fun k_ hk => (⟨hk, hk.2⟩ : _ ∧ k_ ≠ gb179)))) (fun _ hk => hk.1.2)))⟩; have n1_ : Aside0 (w33.heap[gb179]? = some (.cells #[.int .i32 t171, .int .i32 t172, .int .i32 t173, .int .u8 t174, .int .u8 t175, .int .u8 t176, .int .u8 t177] 40 (0, 0))) := ⟨(by rw [hw]; exact (kp BK179))⟩; have n2_ : Aside0 (Below w.heap.size w w33) := ⟨(by rw [hw]; exact bS)⟩; clear hw; clear HO_8; clear BK179; clear HB; have HO_8 := n0_; have BK179 := n1_; have HB := n2_; clear n0_ n1_ n2_; have hz34 := cel7 BK179.out; have p29 : 0 ≤ (a1 : Int) := dA; have q29 : (a1 : Int) < ((t154.length : Int) : Int) := dA; obtain ⟨go29, co29, eo29, gb29, gl29, cl29, HG29⟩ := Kd.R_form HO_8.out (by omega); (first | cases eo29 | (injection eo29 with ea_ en_ ec_; (first | subst ea_ | (injection ea_ with ea_; subst ea_)); subst ec_; clear en_)); have GB29 := aS gb29; have GG29 := aS HG29; clear gb29 gl29 HG29; obtain ⟨ce29, hcl29, hM29, hcc29, hfr29⟩ := Kd.R_elem HO_8.out z40 (a1 : Int) p29 q29; obtain rfl := k40_openM hM29; have hx29 := el7 hcc29 hfr29; clear hcl29 hcc29 hfr29 hM29; replace p29 := eq_true p29; replace q29 := eq_true q29; have HX35 := aS (show Kd.R k40 40 w33 w.heap.size (fun k_ => k_ ≠ gb179) (.slice (some ⟨go29, 0, none⟩) t154.length co29) t154 from (rr HO_8)); obtain ⟨ce35, hcl35, hM35, hcc35, hfr35⟩ := Kd.R_elem HX35.out z40 (a1 : Int) (dA) (by have h_ : (a1 : Int) < ((t154.length : Int) : Int) := dA; first | exact h_ | (have e_ := (Kd.R_reads' HO_8.out).1; omega) | simpa using h_); obtain rfl := k40_openM hM35; have HP35 := Kd.R_seg HX35.out (a1 : Int) (dA) (by have h_ : (a1 : Int) < ((t154.length : Int) : Int) := dA; first | exact h_ | (have e_ := (Kd.R_reads' HO_8.out).1; omega) | simpa using h_) (seg := [.int .i32 t171, .int .i32 t172, .int .i32 t173, .int .u8 t174, .int .u8 t175, .int .u8 t176, .int .u8 t177]) (j := 0) hcl35 hcc35 (show 7 ≤ 7 from by decide) (x' := (⟨t171, (⟨t172, t173⟩ : S36), t174, (⟨t175, t176, t177⟩ : S38)⟩ : S40)) (k40_mkM _ _ _ (⟨t171, (⟨t172, t173⟩ : S36), t174, (⟨t175, t176, t177⟩ : S38)⟩ : S40) ) (fun _ hk => hk); have hx35 := el7 hcc35 hfr35; clear hcl35 hcc35 hfr35 hM35) | ((with_reducible refine gate_store (t := 40) (p := 55) rfl ?_); refine store_event (t := 40) (p := 55) (v := ?vo_w36) (w1 := (((((((w33.setCell ⟨go29, (a1 : Int).toNat * 7, none⟩ (.int .i32 t171)).setCell ⟨go29, (a1 : Int).toNat * 7 + 1, none⟩ (.int .i32 t172)).setCell ⟨go29, (a1 : Int).toNat * 7 + 2, none⟩ (.int .i32 t173)).setCell ⟨go29, (a1 : Int).toNat * 7 + 3, none⟩ (.int .u8 t174)).setCell ⟨go29, (a1 : Int).toNat * 7 + 4, none⟩ (.int .u8 t175)).setCell ⟨go29, (a1 : Int).toNat * 7 + 5, none⟩ (.int .u8 t176)).setCell ⟨go29, (a1 : Int).toNat * 7 + 6, none⟩ (.int .u8 t177))) ?hg ?ho ?hn ?hr ?_; (case ho => rfl); (case hg => rfl); (case hn => rfl); (case hr => first | (go_simp; done) | (go_simp; rfl)); intro w36 hw; have hg : w33.grownBy w36 (some go29) := (by rw [hw]; exact HP35.2); have hp_ : Kd.R k40 40 w36 w.heap.size (fun k_ => k_ ≠ gb179) (.slice (some ⟨go29, 0, none⟩) t154.length co29) y180 := (by rw [hw, Ny180.out]; exact HP35.1); clear HP35; replace BK179 := aS (blk_grown (kb BK179) hg (Kd.R_away HO_8.out (fun _ hk => hk))); replace HO_8 := aS (hp_); replace HB := aS ((by rw [hw]; exact bS : Below w.heap.size w w36)); clear hg hw hp_))
       go_ret2
       exact ⟨_, by first | rfl | (simp <;> rfl) | (simp only [← hji13]; first | rfl | (simp <;> rfl)) | (simp [*] <;> rfl), by (with_reducible repeat (first | apply rA | apply rN | apply rD)); exact Kd.R_mono HO_8.out (fun _ hk => trivial), bS⟩
     ·rw [if_neg c12] at H
      have c12b0 : decide (0 < a1) = false := decide_eq_false c12
      clear c12
      replace H := Option.bind_eq_some_iff.mp H
      obtain ⟨⟨t182, t183, t184, t185, t186, t187, t188, t189⟩, A370, H⟩ := H
      try dsimp only at H
      have A37 := aS A370
      clear A370
      obtain ⟨c38, H⟩ := ifS H
      have c38b0 : decide (a1 < (t154.length : Int)) = true := decide_eq_true c38
      clear c38
      obtain ⟨y191, hy191⟩ : ∃ y_ : List (S40), y_ = (t154.set (a1 : Int).toNat (⟨t182, (⟨t183, t184⟩ : S36), t185, (⟨t186, t187, t188⟩ : S38)⟩ : S40)) := ⟨_, rfl⟩
      replace H : (some (y191, t189)) = some (r1, r2) := rq hy191 H
      have Ny191 := aS hy191
      clear hy191
      simp only [Option.some.injEq, Prod.mk.injEq] at H
      obtain ⟨rfl, rfl⟩ := H
      have p157 : 0 ≤ (a1 : Int) := dA
      have q157 : a1 < (l0.length : Int) := dA
      obtain ⟨ad157, e157, hx157_0, hx157_1, hx157_2, hx157_3, hx157_4, hx157_5, hx157_6⟩ := at_T40 HR0.out a1 p157 q157
      cases e157
      replace hx157_0 := xc HB hx157_0
      replace hx157_1 := xc HB hx157_1
      replace hx157_2 := xc HB hx157_2
      replace hx157_3 := xc HB hx157_3
      replace hx157_4 := xc HB hx157_4
      replace hx157_5 := xc HB hx157_5
      replace hx157_6 := xc HB hx157_6
      replace p157 := eq_true p157
      replace q157 := eq_true q157
      have p181 : 0 ≤ (a1 : Int) := dA
      have q181 : a1 < (l0.length : Int) := dA
      obtain ⟨ad181, e181, hx181_0, hx181_1, hx181_2, hx181_3, hx181_4, hx181_5, hx181_6⟩ := at_T40 HR0.out a1 p181 q181
      obtain rfl : ad157 = ad181 := (by injection e181)
      replace hx181_0 := xc HB hx181_0
      replace hx181_1 := xc HB hx181_1
      replace hx181_2 := xc HB hx181_2
      replace hx181_3 := xc HB hx181_3
      replace hx181_4 := xc HB hx181_4
      replace hx181_5 := xc HB hx181_5
      replace hx181_6 := xc HB hx181_6
      replace p181 := eq_true p181
      replace q181 := eq_true q181
      go_wp2_with (first | (refine gL 96 49 Tryz.func96 #[.agg #[.int .i32 ((rd_T40 l0 a1).f0), .int .i32 ((rd_T40 l0 a1).f1.f0), .int .i32 ((rd_T40 l0 a1).f1.f1), .int .u8 ((rd_T40 l0 a1).f2), .int .u8 ((rd_T40 l0 a1).f3.f0), .int .u8 ((rd_T40 l0 a1).f3.f1), .int .u8 ((rd_T40 l0 a1).f3.f2)], .int .i32 a2] ?_; (with_reducible refine (cell_Mark.calls ((rd_T40 l0 a1).f0) ((rd_T40 l0 a1).f1.f0) ((rd_T40 l0 a1).f1.f1) ((rd_T40 l0 a1).f2) ((rd_T40 l0 a1).f3.f0) ((rd_T40 l0 a1).f3.f1) ((rd_T40 l0 a1).f3.f2) a2 t182 t183 t184 t185 t186 t187 t188 t189 _ A37.out).mono ?_); rintro e w40 ⟨rfl, hb⟩; refine ⟨_, rfl, ?_⟩; replace HO_8 := aS (Kd.R_below (rr HO_8) hb); replace HB := aS (below_step bB hb); (try clear hb); (try clear hb2); (try clear hk); (try clear hi)) | ((with_reducible refine gate_dst (N := 9) rfl ?_); (try (refine gate_guard (by rfl) ?_; dsimp only)); refine bx 9 #[.int .i32 0, .int .i32 0, .int .i32 0, .int .u8 0, .int .u8 0, .int .u8 0, .int .u8 0] 40 ?_; intro gb190 hg w41 hbox hb; replace HO_8 := aS (Kd.R_below (Kd.R_elderB (rr HO_8) gb190 (Nat.le_of_eq hg.symm)) hb); have BK190 := aS (hbox); have GW190 := aS (gw HB hg); have GE190 := aS (gw HB hg); replace HB := aS (below_step bB hb); clear hb hbox hg; have hz42 := cel7 BK190.out) | ((with_reducible refine gate_store (t := 40) (p := 9) rfl ?_); refine store_event (t := 40) (p := 9) (v := ?vo_w43) (w1 := (((((((w41.setCell ⟨gb190, 0, none⟩ (.int .i32 t182)).setCell ⟨gb190, 1, none⟩ (.int .i32 t183)).setCell ⟨gb190, 2, none⟩ (.int .i32 t184)).setCell ⟨gb190, 3, none⟩ (.int .u8 t185)).setCell ⟨gb190, 4, none⟩ (.int .u8 t186)).setCell ⟨gb190, 5, none⟩ (.int .u8 t187)).setCell ⟨gb190, 6, none⟩ (.int .u8 t188))) ?hg ?ho ?hn ?hr ?_; (case ho => rfl); (case hg => rfl); (case hn => rfl); (case hr => first | (go_simp; done) | (go_simp; rfl)); intro w43 hw; have n0_ : Aside0 (Kd.R k40 40 w43 w.heap.size (fun k_ => k_ ≠ gb190) v155 t154) := ⟨(by rw [hw]; exact (by (with_reducible repeat (first | apply rA | apply rN | apply rD)); exact Kd.R_mono (rK (Kd.R_mono HO_8.out (fun k_ hk => (⟨hk, hk.2⟩ : _ ∧ k_ ≠ gb190)))) (fun _ hk => hk.1.2)))⟩; have n1_ : Aside0 (w43.heap[gb190]? = some (.cells #[.int .i32 t182, .int .i32 t183, .int .i32 t184, .int .u8 t185, .int .u8 t186, .int .u8 t187, .int .u8 t188] 40 (0, 0))) := ⟨(by rw [hw]; exact (kp BK190))⟩; have n2_ : Aside0 (Below w.heap.size w w43) := ⟨(by rw [hw]; exact bS)⟩; clear hw; clear HO_8; clear BK190; clear HB; have HO_8 := n0_; have BK190 := n1_; have HB := n2_; clear n0_ n1_ n2_; have hz44 := cel7 BK190.out; have p39 : 0 ≤ (a1 : Int) := dA; have q39 : (a1 : Int) < ((t154.length : Int) : Int) := dA; obtain ⟨go39, co39, eo39, gb39, gl39, cl39, HG39⟩ := Kd.R_form HO_8.out (by omega); (first | cases eo39 | (injection eo39 with ea_ en_ ec_; (first | subst ea_ | (injection ea_ with ea_; subst ea_)); subst ec_; clear en_)); have GB39 := aS gb39; have GG39 := aS HG39; clear gb39 gl39 HG39; obtain ⟨ce39, hcl39, hM39, hcc39, hfr39⟩ := Kd.R_elem HO_8.out z40 (a1 : Int) p39 q39; obtain rfl := k40_openM hM39; have hx39 := el7 hcc39 hfr39; clear hcl39 hcc39 hfr39 hM39; replace p39 := eq_true p39; replace q39 := eq_true q39; have HX45 := aS (show Kd.R k40 40 w43 w.heap.size (fun k_ => k_ ≠ gb190) (.slice (some ⟨go39, 0, none⟩) t154.length co39) t154 from (rr HO_8)); obtain ⟨ce45, hcl45, hM45, hcc45, hfr45⟩ := Kd.R_elem HX45.out z40 (a1 : Int) (dA) (by have h_ : (a1 : Int) < ((t154.length : Int) : Int) := dA; first | exact h_ | (have e_ := (Kd.R_reads' HO_8.out).1; omega) | simpa using h_); obtain rfl := k40_openM hM45; have HP45 := Kd.R_seg HX45.out (a1 : Int) (dA) (by have h_ : (a1 : Int) < ((t154.length : Int) : Int) := dA; first | exact h_ | (have e_ := (Kd.R_reads' HO_8.out).1; omega) | simpa using h_) (seg := [.int .i32 t182, .int .i32 t183, .int .i32 t184, .int .u8 t185, .int .u8 t186, .int .u8 t187, .int .u8 t188]) (j := 0) hcl45 hcc45 (show 7 ≤ 7 from by decide) (x' := (⟨t182, (⟨t183, t184⟩ : S36), t185, (⟨t186, t187, t188⟩ : S38)⟩ : S40)) (k40_mkM _ _ _ (⟨t182, (⟨t183, t184⟩ : S36), t185, (⟨t186, t187, t188⟩ : S38)⟩ : S40) ) (fun _ hk => hk); have hx45 := el7 hcc45 hfr45; clear hcl45 hcc45 hfr45 hM45) | ((with_reducible refine gate_store (t := 40) (p := 55) rfl ?_); refine store_event (t := 40) (p := 55) (v := ?vo_w46) (w1 := (((((((w43.setCell ⟨go39, (a1 : Int).toNat * 7, none⟩ (.int .i32 t182)).setCell ⟨go39, (a1 : Int).toNat * 7 + 1, none⟩ (.int .i32 t183)).setCell ⟨go39, (a1 : Int).toNat * 7 + 2, none⟩ (.int .i32 t184)).setCell ⟨go39, (a1 : Int).toNat * 7 + 3, none⟩ (.int .u8 t185)).setCell ⟨go39, (a1 : Int).toNat * 7 + 4, none⟩ (.int .u8 t186)).setCell ⟨go39, (a1 : Int).toNat * 7 + 5, none⟩ (.int .u8 t187)).setCell ⟨go39, (a1 : Int).toNat * 7 + 6, none⟩ (.int .u8 t188))) ?hg ?ho ?hn ?hr ?_; (case ho => rfl); (case hg => rfl); (case hn => rfl); (case hr => first | (go_simp; done) | (go_simp; rfl)); intro w46 hw; have hg : w43.grownBy w46 (some go39) := (by rw [hw]; exact HP45.2); have hp_ : Kd.R k40 40 w46 w.heap.size (fun k_ => k_ ≠ gb190) (.slice (some ⟨go39, 0, none⟩) t154.length co39) y191 := (by rw [hw, Ny191.out]; exact HP45.1); clear HP45; replace BK190 := aS (blk_grown (kb BK190) hg (Kd.R_away HO_8.out (fun _ hk => hk))); replace HO_8 := aS (hp_); replace HB := aS ((by rw [hw]; exact bS : Below w.heap.size w w46)); clear hg hw hp_))
      go_ret2
      exact ⟨_, by first | rfl | (simp <;> rfl) | (simp [*] <;> rfl), by (with_reducible repeat (first | apply rA | apply rN | apply rD)); exact Kd.R_mono HO_8.out (fun _ hk => trivial), bS⟩
    ·rw [if_neg c11] at H
     have c11b0 : (((rd_T40 l0 a1).f2) == 0) = false := beq_eq_false_iff_ne.mpr c11
     have c11b1 : (((rd_T40 l0 a1).f2) != 0) = true := bne_iff_ne.mpr c11
     replace H := Option.bind_eq_some_iff.mp H
     obtain ⟨⟨t193, t194, t195, t196, t197, t198, t199, t200⟩, A470, H⟩ := H
     try dsimp only at H
     have A47 := aS A470
     clear A470
     obtain ⟨c48, H⟩ := ifS H
     have c48b0 : decide (a1 < (t154.length : Int)) = true := decide_eq_true c48
     clear c48
     obtain ⟨y202, hy202⟩ : ∃ y_ : List (S40), y_ = (t154.set (a1 : Int).toNat (⟨t193, (⟨t194, t195⟩ : S36), t196, (⟨t197, t198, t199⟩ : S38)⟩ : S40)) := ⟨_, rfl⟩
     replace H : (some (y202, t200)) = some (r1, r2) := rq hy202 H
     have Ny202 := aS hy202
     clear hy202
     simp only [Option.some.injEq, Prod.mk.injEq] at H
     obtain ⟨rfl, rfl⟩ := H
     have p157 : 0 ≤ (a1 : Int) := dA
     have q157 : a1 < (l0.length : Int) := dA
     obtain ⟨ad157, e157, hx157_0, hx157_1, hx157_2, hx157_3, hx157_4, hx157_5, hx157_6⟩ := at_T40 HR0.out a1 p157 q157
     cases e157
     replace hx157_0 := xc HB hx157_0
     replace hx157_1 := xc HB hx157_1
     replace hx157_2 := xc HB hx157_2
     replace hx157_3 := xc HB hx157_3
     replace hx157_4 := xc HB hx157_4
     replace hx157_5 := xc HB hx157_5
     replace hx157_6 := xc HB hx157_6
     replace p157 := eq_true p157
     replace q157 := eq_true q157
     have p192 : 0 ≤ (a1 : Int) := dA
     have q192 : a1 < (l0.length : Int) := dA
     obtain ⟨ad192, e192, hx192_0, hx192_1, hx192_2, hx192_3, hx192_4, hx192_5, hx192_6⟩ := at_T40 HR0.out a1 p192 q192
     obtain rfl : ad157 = ad192 := (by injection e192)
     replace hx192_0 := xc HB hx192_0
     replace hx192_1 := xc HB hx192_1
     replace hx192_2 := xc HB hx192_2
     replace hx192_3 := xc HB hx192_3
     replace hx192_4 := xc HB hx192_4
     replace hx192_5 := xc HB hx192_5
     replace hx192_6 := xc HB hx192_6
     replace p192 := eq_true p192
     replace q192 := eq_true q192
     go_wp2_with (first | (refine gL 96 49 Tryz.func96 #[.agg #[.int .i32 ((rd_T40 l0 a1).f0), .int .i32 ((rd_T40 l0 a1).f1.f0), .int .i32 ((rd_T40 l0 a1).f1.f1), .int .u8 ((rd_T40 l0 a1).f2), .int .u8 ((rd_T40 l0 a1).f3.f0), .int .u8 ((rd_T40 l0 a1).f3.f1), .int .u8 ((rd_T40 l0 a1).f3.f2)], .int .i32 a2] ?_; (with_reducible refine (cell_Mark.calls ((rd_T40 l0 a1).f0) ((rd_T40 l0 a1).f1.f0) ((rd_T40 l0 a1).f1.f1) ((rd_T40 l0 a1).f2) ((rd_T40 l0 a1).f3.f0) ((rd_T40 l0 a1).f3.f1) ((rd_T40 l0 a1).f3.f2) a2 t193 t194 t195 t196 t197 t198 t199 t200 _ A47.out).mono ?_); rintro e w50 ⟨rfl, hb⟩; refine ⟨_, rfl, ?_⟩; replace HO_8 := aS (Kd.R_below (rr HO_8) hb); replace HB := aS (below_step bB hb); (try clear hb); (try clear hb2); (try clear hk); (try clear hi)) | ((with_reducible refine gate_dst (N := 9) rfl ?_); (try (refine gate_guard (by rfl) ?_; dsimp only)); refine bx 9 #[.int .i32 0, .int .i32 0, .int .i32 0, .int .u8 0, .int .u8 0, .int .u8 0, .int .u8 0] 40 ?_; intro gb201 hg w51 hbox hb; replace HO_8 := aS (Kd.R_below (Kd.R_elderB (rr HO_8) gb201 (Nat.le_of_eq hg.symm)) hb); have BK201 := aS (hbox); have GW201 := aS (gw HB hg); have GE201 := aS (gw HB hg); replace HB := aS (below_step bB hb); clear hb hbox hg; have hz52 := cel7 BK201.out) | ((with_reducible refine gate_store (t := 40) (p := 9) rfl ?_); refine store_event (t := 40) (p := 9) (v := ?vo_w53) (w1 := (((((((w51.setCell ⟨gb201, 0, none⟩ (.int .i32 t193)).setCell ⟨gb201, 1, none⟩ (.int .i32 t194)).setCell ⟨gb201, 2, none⟩ (.int .i32 t195)).setCell ⟨gb201, 3, none⟩ (.int .u8 t196)).setCell ⟨gb201, 4, none⟩ (.int .u8 t197)).setCell ⟨gb201, 5, none⟩ (.int .u8 t198)).setCell ⟨gb201, 6, none⟩ (.int .u8 t199))) ?hg ?ho ?hn ?hr ?_; (case ho => rfl); (case hg => rfl); (case hn => rfl); (case hr => first | (go_simp; done) | (go_simp; rfl)); intro w53 hw; have n0_ : Aside0 (Kd.R k40 40 w53 w.heap.size (fun k_ => k_ ≠ gb201) v155 t154) := ⟨(by rw [hw]; exact (by (with_reducible repeat (first | apply rA | apply rN | apply rD)); exact Kd.R_mono (rK (Kd.R_mono HO_8.out (fun k_ hk => (⟨hk, hk.2⟩ : _ ∧ k_ ≠ gb201)))) (fun _ hk => hk.1.2)))⟩; have n1_ : Aside0 (w53.heap[gb201]? = some (.cells #[.int .i32 t193, .int .i32 t194, .int .i32 t195, .int .u8 t196, .int .u8 t197, .int .u8 t198, .int .u8 t199] 40 (0, 0))) := ⟨(by rw [hw]; exact (kp BK201))⟩; have n2_ : Aside0 (Below w.heap.size w w53) := ⟨(by rw [hw]; exact bS)⟩; clear hw; clear HO_8; clear BK201; clear HB; have HO_8 := n0_; have BK201 := n1_; have HB := n2_; clear n0_ n1_ n2_; have hz54 := cel7 BK201.out; have p49 : 0 ≤ (a1 : Int) := dA; have q49 : (a1 : Int) < ((t154.length : Int) : Int) := dA; obtain ⟨go49, co49, eo49, gb49, gl49, cl49, HG49⟩ := Kd.R_form HO_8.out (by omega); (first | cases eo49 | (injection eo49 with ea_ en_ ec_; (first | subst ea_ | (injection ea_ with ea_; subst ea_)); subst ec_; clear en_)); have GB49 := aS gb49; have GG49 := aS HG49; clear gb49 gl49 HG49; obtain ⟨ce49, hcl49, hM49, hcc49, hfr49⟩ := Kd.R_elem HO_8.out z40 (a1 : Int) p49 q49; obtain rfl := k40_openM hM49; have hx49 := el7 hcc49 hfr49; clear hcl49 hcc49 hfr49 hM49; replace p49 := eq_true p49; replace q49 := eq_true q49; have HX55 := aS (show Kd.R k40 40 w53 w.heap.size (fun k_ => k_ ≠ gb201) (.slice (some ⟨go49, 0, none⟩) t154.length co49) t154 from (rr HO_8)); obtain ⟨ce55, hcl55, hM55, hcc55, hfr55⟩ := Kd.R_elem HX55.out z40 (a1 : Int) (dA) (by have h_ : (a1 : Int) < ((t154.length : Int) : Int) := dA; first | exact h_ | (have e_ := (Kd.R_reads' HO_8.out).1; omega) | simpa using h_); obtain rfl := k40_openM hM55; have HP55 := Kd.R_seg HX55.out (a1 : Int) (dA) (by have h_ : (a1 : Int) < ((t154.length : Int) : Int) := dA; first | exact h_ | (have e_ := (Kd.R_reads' HO_8.out).1; omega) | simpa using h_) (seg := [.int .i32 t193, .int .i32 t194, .int .i32 t195, .int .u8 t196, .int .u8 t197, .int .u8 t198, .int .u8 t199]) (j := 0) hcl55 hcc55 (show 7 ≤ 7 from by decide) (x' := (⟨t193, (⟨t194, t195⟩ : S36), t196, (⟨t197, t198, t199⟩ : S38)⟩ : S40)) (k40_mkM _ _ _ (⟨t193, (⟨t194, t195⟩ : S36), t196, (⟨t197, t198, t199⟩ : S38)⟩ : S40) ) (fun _ hk => hk); have hx55 := el7 hcc55 hfr55; clear hcl55 hcc55 hfr55 hM55) | ((with_reducible refine gate_store (t := 40) (p := 55) rfl ?_); refine store_event (t := 40) (p := 55) (v := ?vo_w56) (w1 := (((((((w53.setCell ⟨go49, (a1 : Int).toNat * 7, none⟩ (.int .i32 t193)).setCell ⟨go49, (a1 : Int).toNat * 7 + 1, none⟩ (.int .i32 t194)).setCell ⟨go49, (a1 : Int).toNat * 7 + 2, none⟩ (.int .i32 t195)).setCell ⟨go49, (a1 : Int).toNat * 7 + 3, none⟩ (.int .u8 t196)).setCell ⟨go49, (a1 : Int).toNat * 7 + 4, none⟩ (.int .u8 t197)).setCell ⟨go49, (a1 : Int).toNat * 7 + 5, none⟩ (.int .u8 t198)).setCell ⟨go49, (a1 : Int).toNat * 7 + 6, none⟩ (.int .u8 t199))) ?hg ?ho ?hn ?hr ?_; (case ho => rfl); (case hg => rfl); (case hn => rfl); (case hr => first | (go_simp; done) | (go_simp; rfl)); intro w56 hw; have hg : w53.grownBy w56 (some go49) := (by rw [hw]; exact HP55.2); have hp_ : Kd.R k40 40 w56 w.heap.size (fun k_ => k_ ≠ gb201) (.slice (some ⟨go49, 0, none⟩) t154.length co49) y202 := (by rw [hw, Ny202.out]; exact HP55.1); clear HP55; replace BK201 := aS (blk_grown (kb BK201) hg (Kd.R_away HO_8.out (fun _ hk => hk))); replace HO_8 := aS (hp_); replace HB := aS ((by rw [hw]; exact bS : Below w.heap.size w w56)); clear hg hw hp_))
     go_ret2
     exact ⟨_, by first | rfl | (simp <;> rfl) | (simp [*] <;> rfl), by (with_reducible repeat (first | apply rA | apply rN | apply rD)); exact Kd.R_mono HO_8.out (fun _ hk => trivial), bS⟩
def cell_Of.f (a0 : Int) (a1_0 : Int) (a1_1 : Int) (a1_2 : Int) : Option (Int × Int × Int × Int × Int × Int × Int × Bool) := (width_Of.f a0).bind fun t208 => (if t208 < 1 then (some (0, 0, 0, 0, 0, 0, 0, false)) else (some (a0, 0, 0, (t208) % 256, a1_0, a1_1, a1_2, true)))
set_option maxHeartbeats 8000000 in
set_option maxRecDepth 100000 in
theorem cell_Of.calls (a0 : Int) (a1_0 : Int) (a1_1 : Int) (a1_2 : Int) (r1 : Int) (r2 : Int) (r3 : Int) (r4 : Int) (r5 : Int) (r6 : Int) (r7 : Int) (r8 : Bool) (w : World) (h : cell_Of.f a0 a1_0 a1_1 a1_2 = some (r1, r2, r3, r4, r5, r6, r7, r8)) :
 Calls Tryz.prog 22 #[.int .i32 a0, .agg #[.int .u8 a1_0, .int .u8 a1_1, .int .u8 a1_2]] w fun e w' => e = .returned (.tuple #[.agg #[.int .i32 r1, .int .i32 r2, .int .i32 r3, .int .u8 r4, .int .u8 r5, .int .u8 r6, .int .u8 r7], .bool r8]) ∧ Below w.heap.size w w' := by
 have hu38 := Tryz.underlying38
 have hu40 := Tryz.underlying40
 have HB := aS (Below.refl w.heap.size w)
 have H : ((width_Of.f a0).bind fun t208 => (if t208 < 1 then (some (0, 0, 0, 0, 0, 0, 0, false)) else (some (a0, 0, 0, (t208) % 256, a1_0, a1_1, a1_2, true)))) = some (r1, r2, r3, r4, r5, r6, r7, r8) := h
 clear h
 replace H := Option.bind_eq_some_iff.mp H
 obtain ⟨t208, A30, H⟩ := H
 try dsimp only at H
 have A3 := aS A30
 clear A30
 by_cases c4 : t208 < 1
 ·rw [if_pos c4] at H
  have c4b0 : decide (t208 < 1) = true := decide_eq_true c4
  clear c4
  simp only [Option.some.injEq, Prod.mk.injEq] at H
  obtain ⟨rfl, rfl, rfl, rfl, rfl, rfl, rfl, rfl⟩ := H
  go_enter Tryz.func22, Tryz.ntmps22
  go_wp2_with (first | (refine bx 3 #[.int .u8 a1_0, .int .u8 a1_1, .int .u8 a1_2] 38 ?_; intro gb206 hg w5 hbox hb; have BK206 := aS (hbox); have GW206 := aS (gw HB hg); have GE206 := aS (gw HB hg); replace HB := aS (below_step bB hb); clear hb hbox hg) | (refine bx 4 #[.int .i32 0, .int .i32 0, .int .i32 0, .int .u8 0, .int .u8 0, .int .u8 0, .int .u8 0] 40 ?_; intro gb207 hg w6 hbox hb; have BK207 := aS (hbox); have GW207 := aS (gw HB hg); have GE207 := aS (gw HB hg); replace HB := aS (below_step bS hb); have NB206_207 := aS ((by rw [hg]; exact Nat.ne_of_lt (blk_lt (kb BK206)) : gb206 ≠ gb207)); have NB207_206 := aS ((by rw [hg]; exact Nat.ne_of_gt (blk_lt (kb BK206)) : gb207 ≠ gb206)); replace BK206 := aS (blk_below (kb BK206) hb); clear hb hbox hg) | (refine gL 55 8 Tryz.func55 #[.int .i32 a0] ?_; (with_reducible refine (width_Of.calls a0 t208 _ A3.out).mono ?_); rintro e w7 ⟨rfl, hb⟩; refine ⟨_, rfl, ?_⟩; replace BK206 := aS (blk_below (kb BK206) hb); replace BK207 := aS (blk_below (kb BK207) hb); replace HB := aS (below_step bS hb); (try clear hb); (try clear hb2); (try clear hk); (try clear hi); have hnb8 := NB207_206.out; have hnc8 := NB206_207.out; have hz9 := cel7 BK207.out))
  refine bodyPost_ret (results_ct rfl _ _ gb207 40 #[.int .i32 0, .int .i32 0, .int .i32 0, .int .u8 0, .int .u8 0, .int .u8 0, .int .u8 0] (0, 0) _ rfl (kp BK207) Tryz.underlying40 rfl (by kernel_rfl)) rfl ?_
  exact ⟨by first | rfl | (simp <;> rfl) | (simp [*] <;> rfl), bS⟩
 ·rw [if_neg c4] at H
  have c4b0 : decide (t208 < 1) = false := decide_eq_false c4
  clear c4
  simp only [Option.some.injEq, Prod.mk.injEq] at H
  obtain ⟨rfl, rfl, rfl, rfl, rfl, rfl, rfl, rfl⟩ := H
  go_enter Tryz.func22, Tryz.ntmps22
  go_wp2_with (first | (refine bx 3 #[.int .u8 a1_0, .int .u8 a1_1, .int .u8 a1_2] 38 ?_; intro gb206 hg w10 hbox hb; have BK206 := aS (hbox); have GW206 := aS (gw HB hg); have GE206 := aS (gw HB hg); replace HB := aS (below_step bB hb); clear hb hbox hg) | (refine bx 4 #[.int .i32 0, .int .i32 0, .int .i32 0, .int .u8 0, .int .u8 0, .int .u8 0, .int .u8 0] 40 ?_; intro gb207 hg w11 hbox hb; have BK207 := aS (hbox); have GW207 := aS (gw HB hg); have GE207 := aS (gw HB hg); replace HB := aS (below_step bS hb); have NB206_207 := aS ((by rw [hg]; exact Nat.ne_of_lt (blk_lt (kb BK206)) : gb206 ≠ gb207)); have NB207_206 := aS ((by rw [hg]; exact Nat.ne_of_gt (blk_lt (kb BK206)) : gb207 ≠ gb206)); replace BK206 := aS (blk_below (kb BK206) hb); clear hb hbox hg) | (refine gL 55 8 Tryz.func55 #[.int .i32 a0] ?_; (with_reducible refine (width_Of.calls a0 t208 _ A3.out).mono ?_); rintro e w12 ⟨rfl, hb⟩; refine ⟨_, rfl, ?_⟩; replace BK206 := aS (blk_below (kb BK206) hb); replace BK207 := aS (blk_below (kb BK207) hb); replace HB := aS (below_step bS hb); (try clear hb); (try clear hb2); (try clear hk); (try clear hi); have hnb13 := NB206_207.out; have hnc13 := NB207_206.out; have hz14 := cel3 BK206.out; have hz15 := cel7 BK207.out))
  refine bodyPost_ret (results_ct rfl _ _ gb207 40 #[.int .i32 a0, .int .i32 0, .int .i32 0, .int .u8 ((t208) % 256), .int .u8 a1_0, .int .u8 a1_1, .int .u8 a1_2] (0, 0) _ rfl (kp BK207) Tryz.underlying40 rfl (by kernel_rfl)) rfl ?_
  exact ⟨by first | rfl | (simp <;> rfl) | (simp [*] <;> rfl), bS⟩
def prolepsislaw07_small.f (a0 : Int) : Option (Int) := if a0 > 30 then (if a0 ≤ 512 then (some 30) else (some a0)) else (some a0)
set_option maxHeartbeats 8000000 in
set_option maxRecDepth 100000 in
theorem prolepsislaw07_small.calls (a0 : Int) (r : Int) (w : World) (h : prolepsislaw07_small.f a0 = some r) :
 Calls Tryz.prog 4 #[.int .i64 a0] w fun e w' => e = .returned (.int .i64 r) ∧ Drawn0 w w' := by
 have H : (if a0 > 30 then (if a0 ≤ 512 then (some 30) else (some a0)) else (some a0)) = some r := h
 clear h
 by_cases c2 : a0 > 30
 ·rw [if_pos c2] at H
  have c2b0 : decide (30 < a0) = true := decide_eq_true c2
  clear c2
  by_cases c3 : a0 ≤ 512
  ·rw [if_pos c3] at H
   have c3b0 : decide (a0 ≤ 512) = true := decide_eq_true c3
   clear c3
   obtain rfl := Option.some.inj H
   go_enter Tryz.func4, Tryz.ntmps4
   go_wp2
   go_ret
   exact ⟨by first | rfl | (simp; done) | (simp [*]; done), by repeat (first | exact Drawn0.refl _ | apply Drawn0.step)⟩
  ·rw [if_neg c3] at H
   have c3b0 : decide (a0 ≤ 512) = false := decide_eq_false c3
   clear c3
   obtain rfl := Option.some.inj H
   go_enter Tryz.func4, Tryz.ntmps4
   go_wp2
   go_ret
   exact ⟨by first | rfl | (simp; done) | (simp [*]; done), by repeat (first | exact Drawn0.refl _ | apply Drawn0.step)⟩
 ·rw [if_neg c2] at H
  have c2b0 : decide (30 < a0) = false := decide_eq_false c2
  clear c2
  obtain rfl := Option.some.inj H
  go_enter Tryz.func4, Tryz.ntmps4
  go_wp2
  go_ret
  exact ⟨by first | rfl | (simp; done) | (simp [*]; done), by repeat (first | exact Drawn0.refl _ | apply Drawn0.step)⟩
def grid_side.f (a0 : Int) : Option (Bool) := if a0 ≥ 1 then (some (decide (a0 ≤ 512))) else (some false)
set_option maxHeartbeats 8000000 in
set_option maxRecDepth 100000 in
theorem grid_side.calls (a0 : Int) (r : Bool) (w : World) (h : grid_side.f a0 = some r) :
 Calls Tryz.prog 20 #[.int .i64 a0] w fun e w' => e = .returned (.bool r) ∧ Drawn0 w w' := by
 have H : (if a0 ≥ 1 then (some (decide (a0 ≤ 512))) else (some false)) = some r := h
 clear h
 by_cases c2 : a0 ≥ 1
 ·rw [if_pos c2] at H
  have c2b0 : decide (1 ≤ a0) = true := decide_eq_true c2
  clear c2
  obtain rfl := Option.some.inj H
  go_enter Tryz.func20, Tryz.ntmps20
  go_wp2
  go_ret
  exact ⟨by first | rfl | (simp; done) | (simp [*]; done), by repeat (first | exact Drawn0.refl _ | apply Drawn0.step)⟩
 ·rw [if_neg c2] at H
  have c2b0 : decide (1 ≤ a0) = false := decide_eq_false c2
  clear c2
  obtain rfl := Option.some.inj H
  go_enter Tryz.func20, Tryz.ntmps20
  go_wp2
  go_ret
  exact ⟨by first | rfl | (simp; done) | (simp [*]; done), by repeat (first | exact Drawn0.refl _ | apply Drawn0.step)⟩
def line_blanks.l0 : Nat → List (S40) → Int → Int → Int → Int → Int → Option ((List (S40)))
 | 0, _, _, _, _, _, _ => none
 | k + 1, x5, x6, x7, x210000, x210001, x210002 => if x7 < x6 then ((cell_Blank.f x210000 x210001 x210002).bind fun bt210 => (if x5.length < 8796093022208 then (line_blanks.l0 k (x5 ++ [(⟨bt210.1, (⟨bt210.2.1, bt210.2.2.1⟩ : S36), bt210.2.2.2.1, (⟨bt210.2.2.2.2.1, bt210.2.2.2.2.2.1, bt210.2.2.2.2.2.2⟩ : S38)⟩ : S40)]) x6 (wrap64 (x7 + 1)) x210000 x210001 x210002) else (none))) else (some x5)
def line_blanks.f (k : Nat) (a0 : Int) (a1_0 : Int) (a1_1 : Int) (a1_2 : Int) : Option ((List (S40))) := line_blanks.l0 k ([] : List (S40)) a0 0 a1_0 a1_1 a1_2
set_option maxHeartbeats 8000000 in
set_option maxRecDepth 100000 in
theorem line_blanks.calls (k : Nat) (a0 : Int) (a1_0 : Int) (a1_1 : Int) (a1_2 : Int) (r : List (S40)) (w : World) (h : line_blanks.f k a0 a1_0 a1_1 a1_2 = some r) :
 Calls Tryz.prog 53 #[.int .i64 a0, .agg #[.int .u8 a1_0, .int .u8 a1_1, .int .u8 a1_2]] w fun e w' => ∃ v0_ : Value, e = .returned (v0_) ∧ Kd.R k40 40 w' w.heap.size (fun _ => True) v0_ r ∧ Below w.heap.size w w' := by
 have hu38 := Tryz.underlying38
 have HB := aS (Below.refl w.heap.size w)
 have H : (line_blanks.l0 k ([] : List (S40)) a0 0 a1_0 a1_1 a1_2) = some r := h
 clear h
 have H' := aS H
 clear H
 go_enter Tryz.func53, Tryz.ntmps53
 go_wp2_with (first | (refine bx 3 #[.int .u8 a1_0, .int .u8 a1_1, .int .u8 a1_2] 38 ?_; intro gb209 hg w3 hbox hb; have BK209 := aS (hbox); have GW209 := aS (gw HB hg); have GE209 := aS (gw HB hg); replace HB := aS (below_step bB hb); clear hb hbox hg))
 go_loopg [5, 7] k (fun kq v5 v7 w' => ∃ (x5_1 : List (S40)) (x7_1 : Int), v7 = .int .i64 x7_1 ∧ Aside0 (line_blanks.l0 kq x5_1 a0 x7_1 a1_0 a1_1 a1_2 = some r) ∧ Aside0 (kq ≤ k) ∧ Aside0 (Kd.R k40 40 w' w.heap.size (fun _ => True) v5 x5_1) ∧ Aside0 (w'.heap[gb209]? = some (.cells #[.int .u8 a1_0, .int .u8 a1_1, .int .u8 a1_2] 38 (0, 0))) ∧ Aside0 (Below w.heap.size w w'))
 case atStart => exact ⟨(([] : List (S40))), (0), fS, H', ⟨Nat.le_refl _⟩, ⟨by first | exact Kd.R_nil _ _ _ _ _ | exact Kd.N_nil _ _ _ _ _ | exact Kd.V_nil _ _ _ _ _ | exact Kd.Q_nil _ _ _ _ _ | exact Kd.S_nil _ _ _ _ _⟩, ⟨kb BK209⟩, ⟨bS⟩⟩
 case round =>
  clear H'
  try clear p2
  obtain ⟨x5_1, x7_1, rfl, HA, HK1, HO_5, BK209, HB⟩ := hrel
  cases gk with
  | zero => exact absurd HA.out (by simp [line_blanks.l0])
  | succ k1 =>
   have H := HA.out
   clear HA
   simp only [line_blanks.l0] at H
   by_cases c4 : x7_1 < a0
   ·rw [if_pos c4] at H
    have c4b0 : decide (x7_1 < a0) = true := decide_eq_true c4
    clear c4
    replace H := Option.bind_eq_some_iff.mp H
    obtain ⟨⟨t210, t211, t212, t213, t214, t215, t216⟩, A50, H⟩ := H
    try dsimp only at H
    have A5 := aS A50
    clear A50
    obtain ⟨c6, H⟩ := ifS H
    have LMc6 := aS c6
    clear c6
    obtain ⟨y217, hy217⟩ : ∃ y_ : List (S40), y_ = (x5_1 ++ [(⟨t210, (⟨t211, t212⟩ : S36), t213, (⟨t214, t215, t216⟩ : S38)⟩ : S40)]) := ⟨_, rfl⟩
    replace H : (line_blanks.l0 k1 y217 a0 (wrap64 (x7_1 + 1)) a1_0 a1_1 a1_2) = some r := rq hy217 H
    have Ny217 := aS hy217
    clear hy217
    have H' := aS H
    clear H
    have hz7 := cel3 BK209.out
    go_wp2_with (first | (refine gL 62 11 Tryz.func62 #[.agg #[.int .u8 a1_0, .int .u8 a1_1, .int .u8 a1_2]] ?_; (with_reducible refine (cell_Blank.calls a1_0 a1_1 a1_2 t210 t211 t212 t213 t214 t215 t216 _ A5.out).mono ?_); rintro e w8 ⟨rfl, hb⟩; refine ⟨_, rfl, ?_⟩; replace HO_5 := aS (Kd.R_below (rr HO_5) hb); replace BK209 := aS (blk_below (kb BK209) hb); replace HB := aS (below_step bS hb); (try clear hb); (try clear hb2); (try clear hk); (try clear hi)) | ((with_reducible refine gate_builtin (b := .append) (xs := #[.tmp 9, .tmp 12]) rfl ?_); at_builtin; refine Kd.R_append k40 (w0 := w) w.heap.size rfl (.tmp 9) (.tmp 12) 41 40 (.agg #[(.int .i32 0), (.int .i32 0), (.int .i32 0), (.int .u8 0), (.int .u8 0), (.int .u8 0), (.int .u8 0)]) 16 rfl Tryz.underlying41 info40 rfl (by decide) (by omega) u5 x5_1 (⟨t210, (⟨t211, t212⟩ : S36), t213, (⟨t214, t215, t216⟩ : S38)⟩ : S40) [.int .i32 t210, .int .i32 t211, .int .i32 t212, .int .u8 t213, .int .u8 t214, .int .u8 t215, .int .u8 t216] (fun _ => True) (fun _ => False) rfl rfl ?aP (fun _ hk => hk.elim) ?aF ?aO ?aB ?aS ?aL ?_; (case aP => exact k40_mkM _ _ _ (⟨t210, (⟨t211, t212⟩ : S36), t213, (⟨t214, t215, t216⟩ : S38)⟩ : S40)); (case aB => exact bS); (case aF => exact (fun _ _ => trivial)); (case aO => exact (rr HO_5)); (case aS => exact (below_size bS)); (case aL => have := LMc6.out; omega); intro v218 w9 ho hb hg hat; rw [← Ny217.out] at ho; replace BK209 := aS (blk_grown (kb BK209) hg (Kd.R_ne HO_5.out BK209.out (by decide))); replace HB := aS (hb); have HO219 := aS (ho); clear HO_5; clear ho hb hg hat))
    go_roundg k1
    case measure => have := HK1.out; omega
    case rel => exact ⟨(y217), (wrap64 (x7_1 + 1)), fS, H', ⟨by have := HK1.out; omega⟩, ⟨rr HO219⟩, ⟨kb BK209⟩, ⟨bS⟩⟩
   ·rw [if_neg c4] at H
    have c4b0 : decide (x7_1 < a0) = false := decide_eq_false c4
    clear c4
    obtain rfl := Option.some.inj H
    go_wp2
    go_ret
    exact ⟨_, by first | rfl | (simp <;> rfl) | (simp [*] <;> rfl), rr HO_5, bS⟩
def line_length.f (a0 : Int) : Option (Int) := some (mn (mx a0 0) 512)
set_option maxHeartbeats 8000000 in
set_option maxRecDepth 100000 in
theorem line_length.calls (a0 : Int) (r : Int) (w : World) (h : line_length.f a0 = some r) :
 Calls Tryz.prog 54 #[.int .i64 a0] w fun e w' => e = .returned (.int .i64 r) ∧ Below w.heap.size w w' := by
 have HB := aS (Below.refl w.heap.size w)
 have H : (some (mn (mx a0 0) 512)) = some r := h
 clear h
 obtain ⟨ji2, hji2⟩ : ∃ j_ : Int, (mx a0 0) = j_ := ⟨_, rfl⟩
 replace H : (some (mn (ji2) 512)) = some r := by first | (rw [hji2] at H; exact H) | (simp only [hji2] at H ⊢; exact H)
 (try (have hji2l : 0 ≤ ji2 := by (rw [← hji2]; unfold mx; (repeat' split) <;> omega)))
 (try (have hji2m : 0 ≤ ji2 := by omega))
 have hji2_ : (if a0 < 0 then 0 else a0) = ji2 := hji2
 obtain ⟨ji3, hji3⟩ : ∃ j_ : Int, (mn (ji2) 512) = j_ := ⟨_, rfl⟩
 replace H : (some ji3) = some r := by first | (rw [hji3] at H; exact H) | (simp only [hji3] at H ⊢; exact H)
 have hji3_ : (if 512 < (ji2) then 512 else (ji2)) = ji3 := hji3
 obtain rfl := Option.some.inj H
 go_enter Tryz.func54, Tryz.ntmps54
 go_wp2
 go_ret
 exact ⟨by first | rfl | (simp <;> rfl) | (simp only [← hji2, ← hji3]; first | rfl | (simp <;> rfl)) | (simp [*] <;> rfl), bB⟩
def line_New.f (k : Nat) (a0 : Int) : Option ((List (S40))) := (line_length.f a0).bind fun t220 => ((line_blanks.f k t220 0 0 0).bind fun t221 => (some t221))
set_option maxHeartbeats 8000000 in
set_option maxRecDepth 100000 in
theorem line_New.calls (k : Nat) (a0 : Int) (r : List (S40)) (w : World) (h : line_New.f k a0 = some r) :
 Calls Tryz.prog 21 #[.int .i64 a0] w fun e w' => ∃ v0_ : Value, e = .returned (v0_) ∧ Kd.R k40 40 w' w.heap.size (fun _ => True) v0_ r ∧ Below w.heap.size w w' := by
 have hu38 := Tryz.underlying38
 have HB := aS (Below.refl w.heap.size w)
 have H : ((line_length.f a0).bind fun t220 => ((line_blanks.f k t220 0 0 0).bind fun t221 => (some t221))) = some r := h
 clear h
 replace H := Option.bind_eq_some_iff.mp H
 obtain ⟨t220, A20, H⟩ := H
 try dsimp only at H
 have A2 := aS A20
 clear A20
 replace H := Option.bind_eq_some_iff.mp H
 obtain ⟨t221, A30, H⟩ := H
 try dsimp only at H
 have A3 := aS A30
 clear A30
 obtain rfl := Option.some.inj H
 go_enter Tryz.func21, Tryz.ntmps21
 go_wp2_with (first | (refine gL 54 4 Tryz.func54 #[.int .i64 a0] ?_; (with_reducible refine (line_length.calls a0 t220 _ A2.out).mono ?_); rintro e w4 ⟨rfl, hb⟩; refine ⟨_, rfl, ?_⟩; replace HB := aS (below_step bB hb); (try clear hb); (try clear hb2); (try clear hk); (try clear hi)) | (refine gL 53 6 Tryz.func53 #[.int .i64 t220, .agg #[.int .u8 0, .int .u8 0, .int .u8 0]] ?_; (with_reducible refine (line_blanks.calls k t220 0 0 0 t221 _ A3.out).mono ?_); rintro e w5 ⟨v222, rfl, ho0, hb⟩; refine ⟨_, rfl, ?_⟩; have HO223 := aS (Kd.R_lower ho0 (below_size bB)); replace HB := aS (below_step bB hb); (try clear hb); (try clear hb2); (try clear hk); (try clear hi); (try clear ho0)))
 go_ret
 exact ⟨_, by first | rfl | (simp <;> rfl) | (simp [*] <;> rfl), rr HO223, bB⟩
def prolepsisref07_Size.f (a0 : Int) (a1 : Int) : Option (Bool) := if a0 ≥ 1 then (if a0 ≤ 512 then (if a1 ≥ 1 then (some (decide (a1 ≤ 512))) else (some false)) else (some false)) else (some false)
set_option maxHeartbeats 8000000 in
set_option maxRecDepth 100000 in
theorem prolepsisref07_Size.calls (a0 : Int) (a1 : Int) (r : Bool) (w : World) (h : prolepsisref07_Size.f a0 a1 = some r) :
 Calls Tryz.prog 6 #[.int .i64 a0, .int .i64 a1] w fun e w' => e = .returned (.bool r) ∧ Drawn0 w w' := by
 have H : (if a0 ≥ 1 then (if a0 ≤ 512 then (if a1 ≥ 1 then (some (decide (a1 ≤ 512))) else (some false)) else (some false)) else (some false)) = some r := h
 clear h
 by_cases c3 : a0 ≥ 1
 ·rw [if_pos c3] at H
  have c3b0 : decide (1 ≤ a0) = true := decide_eq_true c3
  clear c3
  by_cases c4 : a0 ≤ 512
  ·rw [if_pos c4] at H
   have c4b0 : decide (a0 ≤ 512) = true := decide_eq_true c4
   clear c4
   by_cases c5 : a1 ≥ 1
   ·rw [if_pos c5] at H
    have c5b0 : decide (1 ≤ a1) = true := decide_eq_true c5
    clear c5
    obtain rfl := Option.some.inj H
    go_enter Tryz.func6, Tryz.ntmps6
    go_wp2
    go_ret
    exact ⟨by first | rfl | (simp; done) | (simp [*]; done), by repeat (first | exact Drawn0.refl _ | apply Drawn0.step)⟩
   ·rw [if_neg c5] at H
    have c5b0 : decide (1 ≤ a1) = false := decide_eq_false c5
    clear c5
    obtain rfl := Option.some.inj H
    go_enter Tryz.func6, Tryz.ntmps6
    go_wp2
    go_ret
    exact ⟨by first | rfl | (simp; done) | (simp [*]; done), by repeat (first | exact Drawn0.refl _ | apply Drawn0.step)⟩
  ·rw [if_neg c4] at H
   have c4b0 : decide (a0 ≤ 512) = false := decide_eq_false c4
   clear c4
   obtain rfl := Option.some.inj H
   go_enter Tryz.func6, Tryz.ntmps6
   go_wp2
   go_ret
   exact ⟨by first | rfl | (simp; done) | (simp [*]; done), by repeat (first | exact Drawn0.refl _ | apply Drawn0.step)⟩
 ·rw [if_neg c3] at H
  have c3b0 : decide (1 ≤ a0) = false := decide_eq_false c3
  clear c3
  obtain rfl := Option.some.inj H
  go_enter Tryz.func6, Tryz.ntmps6
  go_wp2
  go_ret
  exact ⟨by first | rfl | (simp; done) | (simp [*]; done), by repeat (first | exact Drawn0.refl _ | apply Drawn0.step)⟩
def line_Erase.f (k : Nat) (l0 : List (S40)) (a1 : Int) (a2 : Int) (a3_0 : Int) (a3_1 : Int) (a3_2 : Int) : Option ((List (S40))) := (line_blanks.f k (mx 0 (wrap64 ((mn (mx a2 0) (l0.length : Int)) - (mn (mx a1 0) (l0.length : Int))))) a3_0 a3_1 a3_2).bind fun t226 => ((line_laid.f l0 (mn (mx a1 0) (l0.length : Int)) t226).bind fun t229 => (some t229))
set_option maxHeartbeats 8000000 in
set_option maxRecDepth 100000 in
theorem line_Erase.calls (k : Nat) (A0 : Option Addr) (c0 : Nat) (l0 : List (S40)) (a1 : Int) (a2 : Int) (a3_0 : Int) (a3_1 : Int) (a3_2 : Int) (r : List (S40)) (w : World) (hr0 : Kd.C k40 w A0 l0.length l0) (hc0 : l0.length ≤ c0) (h : line_Erase.f k l0 a1 a2 a3_0 a3_1 a3_2 = some r) :
 Calls Tryz.prog 60 #[.slice A0 l0.length c0, .int .i64 a1, .int .i64 a2, .agg #[.int .u8 a3_0, .int .u8 a3_1, .int .u8 a3_2]] w fun e w' => ∃ v0_ : Value, e = .returned (v0_) ∧ Kd.R k40 40 w' w.heap.size (fun _ => True) v0_ r ∧ Below w.heap.size w w' := by
 have hu38 := Tryz.underlying38
 have HR0 := aS hr0
 have HC0 := aS hc0
 clear hr0 hc0
 have HB := aS (Below.refl w.heap.size w)
 have H : ((line_blanks.f k (mx 0 (wrap64 ((mn (mx a2 0) (l0.length : Int)) - (mn (mx a1 0) (l0.length : Int))))) a3_0 a3_1 a3_2).bind fun t226 => ((line_laid.f l0 (mn (mx a1 0) (l0.length : Int)) t226).bind fun t229 => (some t229))) = some r := h
 clear h
 obtain ⟨ji5, hji5⟩ : ∃ j_ : Int, (mx a1 0) = j_ := ⟨_, rfl⟩
 replace H : ((line_blanks.f k (mx 0 (wrap64 ((mn (mx a2 0) (l0.length : Int)) - (mn (ji5) (l0.length : Int))))) a3_0 a3_1 a3_2).bind fun t226 => ((line_laid.f l0 (mn (ji5) (l0.length : Int)) t226).bind fun t229 => (some t229))) = some r := by first | (rw [hji5] at H; exact H) | (simp only [hji5] at H ⊢; exact H)
 (try (have hji5l : 0 ≤ ji5 := by (rw [← hji5]; unfold mx; (repeat' split) <;> omega)))
 (try (have hji5m : 0 ≤ ji5 := by omega))
 have hji5_ : (if a1 < 0 then 0 else a1) = ji5 := hji5
 obtain ⟨ji6, hji6⟩ : ∃ j_ : Int, (mn (ji5) (l0.length : Int)) = j_ := ⟨_, rfl⟩
 replace H : ((line_blanks.f k (mx 0 (wrap64 ((mn (mx a2 0) (l0.length : Int)) - (ji6)))) a3_0 a3_1 a3_2).bind fun t226 => ((line_laid.f l0 (ji6) t226).bind fun t229 => (some t229))) = some r := by first | (rw [hji6] at H; exact H) | (simp only [hji6] at H ⊢; exact H)
 have hji6_ : (if (l0.length : Int) < (ji5) then (l0.length : Int) else (ji5)) = ji6 := hji6
 obtain ⟨ji7, hji7⟩ : ∃ j_ : Int, (mx a2 0) = j_ := ⟨_, rfl⟩
 replace H : ((line_blanks.f k (mx 0 (wrap64 ((mn (ji7) (l0.length : Int)) - (ji6)))) a3_0 a3_1 a3_2).bind fun t226 => ((line_laid.f l0 (ji6) t226).bind fun t229 => (some t229))) = some r := by first | (rw [hji7] at H; exact H) | (simp only [hji7] at H ⊢; exact H)
 (try (have hji7l : 0 ≤ ji7 := by (rw [← hji7]; unfold mx; (repeat' split) <;> omega)))
 (try (have hji7m : 0 ≤ ji7 := by omega))
 have hji7_ : (if a2 < 0 then 0 else a2) = ji7 := hji7
 obtain ⟨ji8, hji8⟩ : ∃ j_ : Int, (mn (ji7) (l0.length : Int)) = j_ := ⟨_, rfl⟩
 replace H : ((line_blanks.f k (mx 0 (wrap64 ((ji8) - (ji6)))) a3_0 a3_1 a3_2).bind fun t226 => ((line_laid.f l0 (ji6) t226).bind fun t229 => (some t229))) = some r := by first | (rw [hji8] at H; exact H) | (simp only [hji8] at H ⊢; exact H)
 have hji8_ : (if (l0.length : Int) < (ji7) then (l0.length : Int) else (ji7)) = ji8 := hji8
 obtain ⟨ji9, hji9⟩ : ∃ j_ : Int, (mx 0 (wrap64 ((ji8) - (ji6)))) = j_ := ⟨_, rfl⟩
 replace H : ((line_blanks.f k (ji9) a3_0 a3_1 a3_2).bind fun t226 => ((line_laid.f l0 (ji6) t226).bind fun t229 => (some t229))) = some r := by first | (rw [hji9] at H; exact H) | (simp only [hji9] at H ⊢; exact H)
 have hji9_ : (if 0 < (wrap64 ((ji8) - (ji6))) then (wrap64 ((ji8) - (ji6))) else 0) = ji9 := hji9
 replace H := Option.bind_eq_some_iff.mp H
 obtain ⟨t226, A100, H⟩ := H
 try dsimp only at H
 have A10 := aS A100
 clear A100
 replace H := Option.bind_eq_some_iff.mp H
 obtain ⟨t229, A110, H⟩ := H
 try dsimp only at H
 have A11 := aS A110
 clear A110
 obtain rfl := Option.some.inj H
 go_enter Tryz.func60, Tryz.ntmps60
 go_wp2_with (first | (refine bx 7 #[.int .u8 a3_0, .int .u8 a3_1, .int .u8 a3_2] 38 ?_; intro gb225 hg w12 hbox hb; have BK225 := aS (hbox); have GW225 := aS (gw HB hg); have GE225 := aS (gw HB hg); replace HB := aS (below_step bB hb); clear hb hbox hg; have hz13 := cel3 BK225.out) | ((with_reducible refine gate_callee (f := 53) rfl ?_); refine goesL_ (some 26) rfl rfl Tryz.func53 (by kernel_rfl) rfl #[.int .i64 ji9, .agg #[.int .u8 a3_0, .int .u8 a3_1, .int .u8 a3_2]] rfl (by (try simp only [List.map_toArray, List.map_cons, List.map_nil]); first | done | (simp only [hji9]; rfl) | rfl | (simp only [List.length_drop, List.length_take]; rfl)) ?_; (with_reducible refine (line_blanks.calls k ji9 a3_0 a3_1 a3_2 t226 _ A10.out).mono ?_); rintro e w14 ⟨v227, rfl, ho0, hb⟩; refine ⟨_, rfl, ?_⟩; have HO228 := aS (Kd.R_lower ho0 (below_size bS)); replace BK225 := aS (blk_below (kb BK225) hb); replace HB := aS (below_step bS hb); (try clear hb); (try clear hb2); (try clear hk); (try clear hi); (try clear ho0); obtain ⟨Ao15, co15, eo15⟩ := Kd.R_slice HO228.out; subst eo15) | ((with_reducible refine gate_callee (f := 90) rfl ?_); refine goesL_ (some 27) rfl rfl Tryz.func90 (by kernel_rfl) rfl #[.slice A0 l0.length c0, .int .i64 ji6, .slice Ao15 t226.length co15] rfl (by (try simp only [List.map_toArray, List.map_cons, List.map_nil]); first | done | (simp only [hji6]; rfl) | rfl | (simp only [List.length_drop, List.length_take]; rfl)) ?_; (with_reducible refine (line_laid.calls _ _ l0 ji6 _ _ t226 t229 _ ?side1 ?side2 ?side3 ?side4 A11.out).mono ?_); (case side1 => repeat (first | exact (Kd.C_below HR0.out HB.out) | (with_reducible refine Kd.C_alloc ?_ _) | (with_reducible refine Kd.C_drewN ?_ _) | (with_reducible refine Kd.C_drew ?_))); (case side2 => exact HC0.out); (case side3 => exact rC (Kd.R_reads' HO228.out)); (case side4 => exact (Kd.R_reads' HO228.out).2.1); rintro e w16 ⟨v230, rfl, ho0, hb⟩; refine ⟨_, rfl, ?_⟩; have HO231 := aS (Kd.R_lower (Kd.R_new' ho0 (Kd.R_lt (rr HO228))) (below_size bS)); replace HO228 := aS (Kd.R_elder' (rr HO228) (Kd.R_base ho0) hb); replace BK225 := aS (blk_below (kb BK225) hb); replace HB := aS (below_step bS hb); (try clear hb); (try clear hb2); (try clear hk); (try clear hi); (try clear ho0)))
 go_ret
 exact ⟨_, by first | rfl | (simp <;> rfl) | (simp only [← hji5, ← hji6, ← hji7, ← hji8, ← hji9]; first | rfl | (simp <;> rfl)) | (simp [*] <;> rfl), by (with_reducible repeat (first | apply rA | apply rN | apply rD)); exact Kd.R_mono HO231.out (fun _ hk => trivial), bS⟩
end Go.Proofs.YtblcmcdifgclcaaGreat.PGridPlays
