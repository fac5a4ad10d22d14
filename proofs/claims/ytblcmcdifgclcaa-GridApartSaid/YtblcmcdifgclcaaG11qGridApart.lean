/- GridApart: what its proof leads to. No condition. -/
import Derived.Test.YtblcmcdifgclcaaG8qGridApart
import Derived.Test.YtblcmcdifgclcaaG9qGridApart
import Derived.Test.YtblcmcdifgclcaaG4qGridApart
namespace Go.Proofs.Ytblcmcdifgclcaa.PGridSame
open Go.RowKit Go.Proofs.YtblcmcdifgclcaaW.PrintWords Go.Proofs.YtblcmcdifgclcaaW.PrintLast Go.Proofs.YtblcmcdifgclcaaW.PrintMore
attribute [local go_sem] isSome_setCell max2_int min2_int max_two min_two
set_option linter.unusedVariables false
set_option linter.unusedSimpArgs false
attribute [local go_sem high] eqA26
def line_Used.l0 : Nat → List (S26) → Int → Option (Int)
 | 0, _, _ => none
 | k + 1, x0, x3 => if x3 > 0 then (if 0 ≤ (wrap64 (x3 - 1)) then (if (wrap64 (x3 - 1)) < (x0.length : Int) then ((cell_Blank.f 0 0 0).bind fun bt210 => (if (((rd_T26 x0 (wrap64 (x3 - 1))).f0) == bt210.1 && ((((rd_T26 x0 (wrap64 (x3 - 1))).f1.f0) == bt210.2.1 && (((rd_T26 x0 (wrap64 (x3 - 1))).f1.f1) == bt210.2.2.1)) && (((rd_T26 x0 (wrap64 (x3 - 1))).f2) == bt210.2.2.2.1 && ((((rd_T26 x0 (wrap64 (x3 - 1))).f3.f0) == bt210.2.2.2.2.1 && (((rd_T26 x0 (wrap64 (x3 - 1))).f3.f1) == bt210.2.2.2.2.2.1 && (((rd_T26 x0 (wrap64 (x3 - 1))).f3.f2) == bt210.2.2.2.2.2.2))))))) = true then (line_Used.l0 k x0 (wrap64 (x3 - 1))) else (some x3))) else (none)) else (none)) else (some x3)
def line_Used.f (k : Nat) (l0 : List (S26)) : Option (Int) := line_Used.l0 k l0 (l0.length : Int)
def line_Used.T2 : Bool × List (List Nat × List Nat) := (true, [([], []), ([0], [0]), ([1], [1]), ([2], [2]), ([2], [2]), ([4, 2], [2, 4]), ([3, 5, 2], [2, 3, 5]), ([6, 2], [2, 6]), ([2], [2]), ([8, 2, 2], [2, 8]), ([7, 9, 2], [2, 7, 9]), ([2, 10], [2, 10])])
def line_Used.B2 : List Nat := [0, 1, 3, 7, 7, 23, 63, 127, 7, 263, 1023, 2047]
theorem line_Used.tab2 : rtab .any (opsOf Try.f55 2) = line_Used.T2 := by kernel_rfl
theorem line_Used.bits2 : waitsOk line_Used.T2.2 line_Used.B2 = true := by kernel_rfl
set_option maxHeartbeats 8000000 in
set_option maxRecDepth 100000 in
theorem line_Used.calls (k : Nat) (A0 : Option Addr) (c0 : Nat) (l0 : List (S26)) (r : Int) (w : World) (hr0 : Kd.C k26 w A0 l0.length l0) (hc0 : l0.length ≤ c0) (h : line_Used.f k l0 = some r) :
 Calls Try.prog 55 #[.slice A0 l0.length c0] w fun e w' => e = .returned (.int .i64 r) ∧ Below w.heap.size w w' := by
 have hu26 := Try.underlying26
 have hu24 := Try.underlying24
 have HR0 := aS hr0
 have HC0 := aS hc0
 clear hr0 hc0
 have HB := aS (Below.refl w.heap.size w)
 have H : (line_Used.l0 k l0 (l0.length : Int)) = some r := h
 clear h
 have H' := aS H
 clear H
 go_enter Try.func55, Try.ntmps55
 go_wp2
 go_loopg [3] k (fun kq v3 w' => ∃ (x3_1 : Int), v3 = .int .i64 x3_1 ∧ Aside0 (line_Used.l0 kq l0 x3_1 = some r) ∧ Aside0 (kq ≤ k) ∧ Aside0 (Below w.heap.size w w'))
 case atStart => exact ⟨((l0.length : Int)), fS, H', ⟨Nat.le_refl _⟩, ⟨bB⟩⟩
 case round =>
  clear H'
  obtain ⟨x3_1, rfl, HA, HK1, HB⟩ := hrel
  cases gk with
  | zero => exact absurd HA.out (by simp [line_Used.l0])
  | succ k1 =>
   have H := HA.out
   clear HA
   simp only [line_Used.l0] at H
   by_cases c2 : x3_1 > 0
   ·rw [if_pos c2] at H
    have c2b0 : decide (0 < x3_1) = true := decide_eq_true c2
    clear c2
    obtain ⟨ji3, hji3⟩ : ∃ j_ : Int, (wrap64 (x3_1 - 1)) = j_ := ⟨_, rfl⟩
    replace H : (if 0 ≤ (ji3) then (if (ji3) < (l0.length : Int) then ((cell_Blank.f 0 0 0).bind fun bt210 => (if (((rd_T26 l0 (ji3)).f0) == bt210.1 && ((((rd_T26 l0 (ji3)).f1.f0) == bt210.2.1 && (((rd_T26 l0 (ji3)).f1.f1) == bt210.2.2.1)) && (((rd_T26 l0 (ji3)).f2) == bt210.2.2.2.1 && ((((rd_T26 l0 (ji3)).f3.f0) == bt210.2.2.2.2.1 && (((rd_T26 l0 (ji3)).f3.f1) == bt210.2.2.2.2.2.1 && (((rd_T26 l0 (ji3)).f3.f2) == bt210.2.2.2.2.2.2))))))) = true then (line_Used.l0 k1 l0 ji3) else (some x3_1))) else (none)) else (none)) = some r := by first | (rw [hji3] at H; exact H) | (simp only [hji3] at H ⊢; exact H)
    have hji3w : (IntKind.i64.wrap (x3_1 - 1)) = ji3 := (i64_w _).trans hji3
    obtain ⟨c4, H⟩ := ifS H
    have c4b0 : decide (0 ≤ (ji3)) = true := decide_eq_true c4
    clear c4
    obtain ⟨c5, H⟩ := ifS H
    have c5b0 : decide ((ji3) < (l0.length : Int)) = true := decide_eq_true c5
    clear c5
    replace H := Option.bind_eq_some_iff.mp H
    obtain ⟨⟨t210, t211, t212, t213, t214, t215, t216⟩, A60, H⟩ := H
    try dsimp only at H
    have A6 := aS A60
    clear A60
    by_cases c7 : (((rd_T26 l0 (ji3)).f0) == t210 && ((((rd_T26 l0 (ji3)).f1.f0) == t211 && (((rd_T26 l0 (ji3)).f1.f1) == t212)) && (((rd_T26 l0 (ji3)).f2) == t213 && ((((rd_T26 l0 (ji3)).f3.f0) == t214 && (((rd_T26 l0 (ji3)).f3.f1) == t215 && (((rd_T26 l0 (ji3)).f3.f2) == t216))))))) = true
    ·rw [if_pos c7] at H
     have c7b0 : (((rd_T26 l0 (ji3)).f0) == t210 && ((((rd_T26 l0 (ji3)).f1.f0) == t211 && (((rd_T26 l0 (ji3)).f1.f1) == t212)) && (((rd_T26 l0 (ji3)).f2) == t213 && ((((rd_T26 l0 (ji3)).f3.f0) == t214 && (((rd_T26 l0 (ji3)).f3.f1) == t215 && (((rd_T26 l0 (ji3)).f3.f2) == t216))))))) = true := c7
     (try (have c7b1 : decide (((rd_T26 l0 (ji3)).f0) = t210 && ((((rd_T26 l0 (ji3)).f1.f0) == t211 && (((rd_T26 l0 (ji3)).f1.f1) == t212)) && (((rd_T26 l0 (ji3)).f2) == t213 && ((((rd_T26 l0 (ji3)).f3.f0) == t214 && (((rd_T26 l0 (ji3)).f3.f1) == t215 && (((rd_T26 l0 (ji3)).f3.f2) == t216))))))) = true := by simpa using c7))
     (try (have c7b2 : (((rd_T26 l0 (ji3)).f0) == t210 && ((((rd_T26 l0 (ji3)).f1.f0) == t211 && (((rd_T26 l0 (ji3)).f1.f1) == t212)) && (((rd_T26 l0 (ji3)).f2) == t213 && ((((rd_T26 l0 (ji3)).f3.f0) == t214 && (((rd_T26 l0 (ji3)).f3.f1) == t215 && (((rd_T26 l0 (ji3)).f3.f2) == t216))))))) = true := by simpa using c7))
     clear c7
     have H' := aS H
     clear H
     try go_wp2
     replace HB := aS (below_drew1 HB.out)
     have p209 : 0 ≤ ((ji3) : Int) := dA
     have q209 : (ji3) < (l0.length : Int) := dA
     obtain ⟨ad209, e209, hx209_0, hx209_1, hx209_2, hx209_3, hx209_4, hx209_5, hx209_6⟩ := at_T26 HR0.out (ji3) p209 q209
     have hw209_6 := hx209_6
     have hw209_5 := hx209_5
     have hw209_4 := hx209_4
     have hw209_3 := hx209_3
     have hw209_2 := hx209_2
     have hw209_1 := hx209_1
     have hw209_0 := hx209_0
     cases e209
     replace hx209_0 := xc HB hx209_0
     replace hx209_1 := xc HB hx209_1
     replace hx209_2 := xc HB hx209_2
     replace hx209_3 := xc HB hx209_3
     replace hx209_4 := xc HB hx209_4
     replace hx209_5 := xc HB hx209_5
     replace hx209_6 := xc HB hx209_6
     replace p209 := eq_true p209
     replace q209 := eq_true q209
     refine start_ (n := 12) (S := fun w' => w'.cell? (ad209.add (((ji3)).toNat * 7)) = some (.int .i32 ((rd_T26 l0 (ji3)).f0)) ∧ w'.cell? ⟨(ad209.add (((ji3)).toNat * 7)).block, (ad209.add (((ji3)).toNat * 7)).off + 1, none⟩ = some (.int .i32 ((rd_T26 l0 (ji3)).f1.f0)) ∧ w'.cell? ⟨(ad209.add (((ji3)).toNat * 7)).block, (ad209.add (((ji3)).toNat * 7)).off + 2, none⟩ = some (.int .i32 ((rd_T26 l0 (ji3)).f1.f1)) ∧ w'.cell? ⟨(ad209.add (((ji3)).toNat * 7)).block, (ad209.add (((ji3)).toNat * 7)).off + 3, none⟩ = some (.int .u8 ((rd_T26 l0 (ji3)).f2)) ∧ w'.cell? ⟨(ad209.add (((ji3)).toNat * 7)).block, (ad209.add (((ji3)).toNat * 7)).off + 4, none⟩ = some (.int .u8 ((rd_T26 l0 (ji3)).f3.f0)) ∧ w'.cell? ⟨(ad209.add (((ji3)).toNat * 7)).block, (ad209.add (((ji3)).toNat * 7)).off + 5, none⟩ = some (.int .u8 ((rd_T26 l0 (ji3)).f3.f1)) ∧ w'.cell? ⟨(ad209.add (((ji3)).toNat * 7)).block, (ad209.add (((ji3)).toNat * 7)).off + 6, none⟩ = some (.int .u8 ((rd_T26 l0 (ji3)).f3.f2))) (ds := []) (tb 12 0) (by kernel_rfl) rfl rfl ⟨(xc HB hw209_0), (xc HB hw209_1), (xc HB hw209_2), (xc HB hw209_3), (xc HB hw209_4), (xc HB hw209_5), (xc HB hw209_6)⟩ (fun hHeld => ?_); refine with_tabW line_Used.tab2 line_Used.bits2 (fun HT_ HW_ => ?_)
     generalize wr.drew = w8 at HB hx209_0 hx209_1 hx209_2 hx209_3 hx209_4 hx209_5 hx209_6 hHeld ⊢
     refine tp 0 (some 6) (tb 12 1) ?_
     refine tp 1 (some 7) (tb 12 3) ?_
     refine tp 2 (some 8) (tb 12 7) ?_
     refine tp 3 (some 9) (tb 12 15) ?_
     refine tp 4 (some 10) (tb 12 31) ?_
     refine tp 5 (some 11) (tb 12 63) ?_
     refine tp 6 (some 12) (tb 12 127) ?_
     refine tp 8 (some 14) (tb 12 383) ?_
     refine tk 7 (some 13) (tb 12 511) ?_
     refine st1 9 (some 15) (tb 12 1023) (fun K hK => ?_)
     refine gO Try.func21 #[.agg #[.int .u8 0, .int .u8 0, .int .u8 0]] ?_
     with_reducible refine (cell_Blank.calls 0 0 0 t210 t211 t212 t213 t214 t215 t216 _ A6.out).mono ?_
     rintro e w9 ⟨rfl, hb⟩
     refine ⟨_, rfl, ?_⟩
     replace HB := aS (below_step bB hb)
     (try clear hb)
     (try clear hb2)
     (try clear hk)
     (try clear hi)
     refine hK.out _ _ ⟨(xc HB hw209_0), (xc HB hw209_1), (xc HB hw209_2), (xc HB hw209_3), (xc HB hw209_4), (xc HB hw209_5), (xc HB hw209_6)⟩ (fun hHeld => ?_)
     clear hK K
     refine nm ?_
     refine tp 10 (some 16) (tb 12 2047) ?_
     refine tp 11 (some 17) (tb 12 4095) ?_
     refine done_ (done_of HT_.out (by kernel_rfl)) ?_
     try go_wp2
     go_roundg k1
     case measure => have := HK1.out; omega
     case rel => exact ⟨(ji3), (by first | rfl | (simp; done) | (simp only [← hji3] <;> (first | rfl | simp)) | (simp [*]; done)), H', ⟨by have := HK1.out; omega⟩, ⟨bB⟩⟩
    ·rw [if_neg c7] at H
     have c7b0 : (((rd_T26 l0 (ji3)).f0) == t210 && ((((rd_T26 l0 (ji3)).f1.f0) == t211 && (((rd_T26 l0 (ji3)).f1.f1) == t212)) && (((rd_T26 l0 (ji3)).f2) == t213 && ((((rd_T26 l0 (ji3)).f3.f0) == t214 && (((rd_T26 l0 (ji3)).f3.f1) == t215 && (((rd_T26 l0 (ji3)).f3.f2) == t216))))))) = false := by simpa using c7
     (try (have c7b1 : decide (((rd_T26 l0 (ji3)).f0) = t210 && ((((rd_T26 l0 (ji3)).f1.f0) == t211 && (((rd_T26 l0 (ji3)).f1.f1) == t212)) && (((rd_T26 l0 (ji3)).f2) == t213 && ((((rd_T26 l0 (ji3)).f3.f0) == t214 && (((rd_T26 l0 (ji3)).f3.f1) == t215 && (((rd_T26 l0 (ji3)).f3.f2) == t216))))))) = false := by simpa using c7))
     (try (have c7b2 : (((rd_T26 l0 (ji3)).f0) == t210 && ((((rd_T26 l0 (ji3)).f1.f0) == t211 && (((rd_T26 l0 (ji3)).f1.f1) == t212)) && (((rd_T26 l0 (ji3)).f2) == t213 && ((((rd_T26 l0 (ji3)).f3.f0) == t214 && (((rd_T26 l0 (ji3)).f3.f1) == t215 && (((rd_T26 l0 (ji3)).f3.f2) == t216))))))) = false := by simpa using c7))
     (try (have c7b3 : ¬ (((rd_T26 l0 (ji3)).f0) = t210 && ((((rd_T26 l0 (ji3)).f1.f0) == t211 && (((rd_T26 l0 (ji3)).f1.f1) == t212)) && (((rd_T26 l0 (ji3)).f2) == t213 && ((((rd_T26 l0 (ji3)).f3.f0) == t214 && (((rd_T26 l0 (ji3)).f3.f1) == t215 && (((rd_T26 l0 (ji3)).f3.f2) == t216))))))) := by simpa using c7))
     clear c7
     obtain rfl := Option.some.inj H
     try go_wp2
     replace HB := aS (below_drew1 HB.out)
     have p209 : 0 ≤ ((ji3) : Int) := dA
     have q209 : (ji3) < (l0.length : Int) := dA
     obtain ⟨ad209, e209, hx209_0, hx209_1, hx209_2, hx209_3, hx209_4, hx209_5, hx209_6⟩ := at_T26 HR0.out (ji3) p209 q209
     have hw209_6 := hx209_6
     have hw209_5 := hx209_5
     have hw209_4 := hx209_4
     have hw209_3 := hx209_3
     have hw209_2 := hx209_2
     have hw209_1 := hx209_1
     have hw209_0 := hx209_0
     cases e209
     replace hx209_0 := xc HB hx209_0
     replace hx209_1 := xc HB hx209_1
     replace hx209_2 := xc HB hx209_2
     replace hx209_3 := xc HB hx209_3
     replace hx209_4 := xc HB hx209_4
     replace hx209_5 := xc HB hx209_5
     replace hx209_6 := xc HB hx209_6
     replace p209 := eq_true p209
     replace q209 := eq_true q209
     refine start_ (n := 12) (S := fun w' => w'.cell? (ad209.add (((ji3)).toNat * 7)) = some (.int .i32 ((rd_T26 l0 (ji3)).f0)) ∧ w'.cell? ⟨(ad209.add (((ji3)).toNat * 7)).block, (ad209.add (((ji3)).toNat * 7)).off + 1, none⟩ = some (.int .i32 ((rd_T26 l0 (ji3)).f1.f0)) ∧ w'.cell? ⟨(ad209.add (((ji3)).toNat * 7)).block, (ad209.add (((ji3)).toNat * 7)).off + 2, none⟩ = some (.int .i32 ((rd_T26 l0 (ji3)).f1.f1)) ∧ w'.cell? ⟨(ad209.add (((ji3)).toNat * 7)).block, (ad209.add (((ji3)).toNat * 7)).off + 3, none⟩ = some (.int .u8 ((rd_T26 l0 (ji3)).f2)) ∧ w'.cell? ⟨(ad209.add (((ji3)).toNat * 7)).block, (ad209.add (((ji3)).toNat * 7)).off + 4, none⟩ = some (.int .u8 ((rd_T26 l0 (ji3)).f3.f0)) ∧ w'.cell? ⟨(ad209.add (((ji3)).toNat * 7)).block, (ad209.add (((ji3)).toNat * 7)).off + 5, none⟩ = some (.int .u8 ((rd_T26 l0 (ji3)).f3.f1)) ∧ w'.cell? ⟨(ad209.add (((ji3)).toNat * 7)).block, (ad209.add (((ji3)).toNat * 7)).off + 6, none⟩ = some (.int .u8 ((rd_T26 l0 (ji3)).f3.f2))) (ds := []) (tb 12 0) (by kernel_rfl) rfl rfl ⟨(xc HB hw209_0), (xc HB hw209_1), (xc HB hw209_2), (xc HB hw209_3), (xc HB hw209_4), (xc HB hw209_5), (xc HB hw209_6)⟩ (fun hHeld => ?_); refine with_tabW line_Used.tab2 line_Used.bits2 (fun HT_ HW_ => ?_)
     generalize wr.drew = w10 at HB hx209_0 hx209_1 hx209_2 hx209_3 hx209_4 hx209_5 hx209_6 hHeld ⊢
     refine tp 0 (some 6) (tb 12 1) ?_
     refine tp 1 (some 7) (tb 12 3) ?_
     refine tp 2 (some 8) (tb 12 7) ?_
     refine tp 3 (some 9) (tb 12 15) ?_
     refine tp 4 (some 10) (tb 12 31) ?_
     refine tp 5 (some 11) (tb 12 63) ?_
     refine tp 6 (some 12) (tb 12 127) ?_
     refine tp 8 (some 14) (tb 12 383) ?_
     refine tk 7 (some 13) (tb 12 511) ?_
     refine st1 9 (some 15) (tb 12 1023) (fun K hK => ?_)
     refine gO Try.func21 #[.agg #[.int .u8 0, .int .u8 0, .int .u8 0]] ?_
     with_reducible refine (cell_Blank.calls 0 0 0 t210 t211 t212 t213 t214 t215 t216 _ A6.out).mono ?_
     rintro e w11 ⟨rfl, hb⟩
     refine ⟨_, rfl, ?_⟩
     replace HB := aS (below_step bB hb)
     (try clear hb)
     (try clear hb2)
     (try clear hk)
     (try clear hi)
     refine hK.out _ _ ⟨(xc HB hw209_0), (xc HB hw209_1), (xc HB hw209_2), (xc HB hw209_3), (xc HB hw209_4), (xc HB hw209_5), (xc HB hw209_6)⟩ (fun hHeld => ?_)
     clear hK K
     refine nm ?_
     refine tp 10 (some 16) (tb 12 2047) ?_
     refine tp 11 (some 17) (tb 12 4095) ?_
     refine done_ (done_of HT_.out (by kernel_rfl)) ?_
     try go_wp2
     go_ret
     exact ⟨by first | rfl | (simp <;> rfl) | (simp only [← hji3]; first | rfl | (simp <;> rfl)) | (simp [*] <;> rfl), bB⟩
   ·rw [if_neg c2] at H
    have c2b0 : decide (0 < x3_1) = false := decide_eq_false c2
    clear c2
    obtain rfl := Option.some.inj H
    try go_wp2
    replace HB := aS (below_drew1 HB.out)
    refine start_ (n := 12) (S := fun w' => True) (ds := []) (tb 12 0) (by kernel_rfl) rfl rfl trivial (fun hHeld => ?_); refine with_tabW line_Used.tab2 line_Used.bits2 (fun HT_ HW_ => ?_)
    generalize wr.drew = w12 at HB hHeld ⊢
    refine tp 0 (some 6) (tb 12 1) ?_
    refine tp 1 (some 7) (tb 12 3) ?_
    refine tp 2 (some 8) (tb 12 7) ?_
    refine pure_ (i := 3) (N := some 9) (v := undef) (a' := ?_) (tb 12 15) rfl rfl (any_of HT_.out (by kernel_rfl)) (fun _ _ _ h => h) (Or.inr ⟨by rfl, rfl⟩) ?_ ?_
    rotate_left
    ·simp only [Act.put, List.setIfInBounds_toArray, List.set_cons_zero, List.set_cons_succ, i64_w, i32_w]
     rfl
    refine pure_ (i := 4) (N := some 10) (v := undef) (a' := ?_) (tb 12 31) rfl rfl (any_of HT_.out (by kernel_rfl)) (fun _ _ _ h => h) (Or.inr ⟨by rfl, rfl⟩) ?_ ?_
    rotate_left
    ·simp only [Act.put, List.setIfInBounds_toArray, List.set_cons_zero, List.set_cons_succ, i64_w, i32_w]
     rfl
    refine pure_ (i := 5) (N := some 11) (v := undef) (a' := ?_) (tb 12 63) rfl rfl (any_of HT_.out (by kernel_rfl)) (fun _ _ _ h => h) (Or.inr ⟨by rfl, rfl⟩) ?_ ?_
    rotate_left
    ·simp only [Act.put, List.setIfInBounds_toArray, List.set_cons_zero, List.set_cons_succ, i64_w, i32_w]
     rfl
    refine pure_ (i := 6) (N := some 12) (v := undef) (a' := ?_) (tb 12 127) rfl rfl (any_of HT_.out (by kernel_rfl)) (fun _ _ _ h => h) (Or.inr ⟨by rfl, rfl⟩) ?_ ?_
    rotate_left
    ·simp only [Act.put, List.setIfInBounds_toArray, List.set_cons_zero, List.set_cons_succ, i64_w, i32_w]
     rfl
    refine pure_ (i := 7) (N := some 13) (v := undef) (a' := ?_) (tb 12 255) rfl rfl (any_of HT_.out (by kernel_rfl)) (fun _ _ _ h => h) (Or.inr ⟨by rfl, rfl⟩) ?_ ?_
    rotate_left
    ·simp only [Act.put, List.setIfInBounds_toArray, List.set_cons_zero, List.set_cons_succ, i64_w, i32_w]
     rfl
    refine pure_ (i := 8) (N := some 14) (v := undef) (a' := ?_) (tb 12 511) rfl rfl (any_of HT_.out (by kernel_rfl)) (fun _ _ _ h => h) (Or.inr ⟨by rfl, rfl⟩) ?_ ?_
    rotate_left
    ·simp only [Act.put, List.setIfInBounds_toArray, List.set_cons_zero, List.set_cons_succ, i64_w, i32_w]
     rfl
    refine pure_ (i := 9) (N := some 15) (v := undef) (a' := ?_) (tb 12 1023) rfl rfl (any_of HT_.out (by kernel_rfl)) (fun _ _ _ h => h) (Or.inr ⟨by rfl, rfl⟩) ?_ ?_
    rotate_left
    ·simp only [Act.put, List.setIfInBounds_toArray, List.set_cons_zero, List.set_cons_succ, i64_w, i32_w]
     rfl
    refine pure_ (i := 10) (N := some 16) (v := undef) (a' := ?_) (tb 12 2047) rfl rfl (any_of HT_.out (by kernel_rfl)) (fun _ _ _ h => h) (Or.inr ⟨by rfl, rfl⟩) ?_ ?_
    rotate_left
    ·simp only [Act.put, List.setIfInBounds_toArray, List.set_cons_zero, List.set_cons_succ, i64_w, i32_w]
     rfl
    refine tp 11 (some 17) (tb 12 4095) ?_
    refine done_ (done_of HT_.out (by kernel_rfl)) ?_
    try go_wp2
    go_ret
    exact ⟨by first | rfl | (simp <;> rfl) | (simp [*] <;> rfl), bB⟩
def line_blanks.l0 : Nat → List (S26) → Int → Int → Int → Int → Int → Option ((List (S26)))
 | 0, _, _, _, _, _, _ => none
 | k + 1, x5, x6, x7, x218000, x218001, x218002 => if x7 < x6 then ((cell_Blank.f x218000 x218001 x218002).bind fun bt218 => (if x5.length < 8796093022208 then (line_blanks.l0 k (x5 ++ [(⟨bt218.1, (⟨bt218.2.1, bt218.2.2.1⟩ : S22), bt218.2.2.2.1, (⟨bt218.2.2.2.2.1, bt218.2.2.2.2.2.1, bt218.2.2.2.2.2.2⟩ : S24)⟩ : S26)]) x6 (wrap64 (x7 + 1)) x218000 x218001 x218002) else (none))) else (some x5)
def line_blanks.f (k : Nat) (a0 : Int) (a1_0 : Int) (a1_1 : Int) (a1_2 : Int) : Option ((List (S26))) := line_blanks.l0 k ([] : List (S26)) a0 0 a1_0 a1_1 a1_2
set_option maxHeartbeats 8000000 in
set_option maxRecDepth 100000 in
theorem line_blanks.calls (k : Nat) (a0 : Int) (a1_0 : Int) (a1_1 : Int) (a1_2 : Int) (r : List (S26)) (w : World) (h : line_blanks.f k a0 a1_0 a1_1 a1_2 = some r) :
 Calls Try.prog 99 #[.int .i64 a0, .agg #[.int .u8 a1_0, .int .u8 a1_1, .int .u8 a1_2]] w fun e w' => ∃ v0_ : Value, e = .returned (v0_) ∧ Kd.R k26 26 w' w.heap.size (fun _ => True) v0_ r ∧ Below w.heap.size w w' := by
 have hu24 := Try.underlying24
 have HB := aS (Below.refl w.heap.size w)
 have H : (line_blanks.l0 k ([] : List (S26)) a0 0 a1_0 a1_1 a1_2) = some r := h
 clear h
 have H' := aS H
 clear H
 go_enter Try.func99, Try.ntmps99
 go_wp2_with (first | (refine bx 3 #[.int .u8 a1_0, .int .u8 a1_1, .int .u8 a1_2] 24 ?_; intro gb217 hg w3 hbox hb; have BK217 := aS (hbox); have GW217 := aS (gw HB hg); have GE217 := aS (gw HB hg); replace HB := aS (below_step bB hb); clear hb hbox hg))
 go_loopg [5, 7] k (fun kq v5 v7 w' => ∃ (x5_1 : List (S26)) (x7_1 : Int), v7 = .int .i64 x7_1 ∧ Aside0 (line_blanks.l0 kq x5_1 a0 x7_1 a1_0 a1_1 a1_2 = some r) ∧ Aside0 (kq ≤ k) ∧ Aside0 (Kd.R k26 26 w' w.heap.size (fun _ => True) v5 x5_1) ∧ Aside0 (w'.heap[gb217]? = some (.cells #[.int .u8 a1_0, .int .u8 a1_1, .int .u8 a1_2] 24 (0, 0))) ∧ Aside0 (Below w.heap.size w w'))
 case atStart => exact ⟨(([] : List (S26))), (0), fS, H', ⟨Nat.le_refl _⟩, ⟨by first | exact Kd.R_nil _ _ _ _ _ | exact Kd.N_nil _ _ _ _ _ | exact Kd.V_nil _ _ _ _ _ | exact Kd.Q_nil _ _ _ _ _ | exact Kd.S_nil _ _ _ _ _⟩, ⟨kb BK217⟩, ⟨bS⟩⟩
 case round =>
  clear H'
  try clear p2
  obtain ⟨x5_1, x7_1, rfl, HA, HK1, HO_5, BK217, HB⟩ := hrel
  cases gk with
  | zero => exact absurd HA.out (by simp [line_blanks.l0])
  | succ k1 =>
   have H := HA.out
   clear HA
   simp only [line_blanks.l0] at H
   by_cases c4 : x7_1 < a0
   ·rw [if_pos c4] at H
    have c4b0 : decide (x7_1 < a0) = true := decide_eq_true c4
    clear c4
    replace H := Option.bind_eq_some_iff.mp H
    obtain ⟨⟨t218, t219, t220, t221, t222, t223, t224⟩, A50, H⟩ := H
    try dsimp only at H
    have A5 := aS A50
    clear A50
    obtain ⟨c6, H⟩ := ifS H
    have LMc6 := aS c6
    clear c6
    obtain ⟨y225, hy225⟩ : ∃ y_ : List (S26), y_ = (x5_1 ++ [(⟨t218, (⟨t219, t220⟩ : S22), t221, (⟨t222, t223, t224⟩ : S24)⟩ : S26)]) := ⟨_, rfl⟩
    replace H : (line_blanks.l0 k1 y225 a0 (wrap64 (x7_1 + 1)) a1_0 a1_1 a1_2) = some r := rq hy225 H
    have Ny225 := aS hy225
    clear hy225
    have H' := aS H
    clear H
    have hz7 := cel3 BK217.out
    go_wp2_with (first | (refine gL 21 11 Try.func21 #[.agg #[.int .u8 a1_0, .int .u8 a1_1, .int .u8 a1_2]] ?_; (with_reducible refine (cell_Blank.calls a1_0 a1_1 a1_2 t218 t219 t220 t221 t222 t223 t224 _ A5.out).mono ?_); rintro e w8 ⟨rfl, hb⟩; refine ⟨_, rfl, ?_⟩; replace HO_5 := aS (Kd.R_below (rr HO_5) hb); replace BK217 := aS (blk_below (kb BK217) hb); replace HB := aS (below_step bS hb); (try clear hb); (try clear hb2); (try clear hk); (try clear hi)) | ((with_reducible refine gate_builtin (b := .append) (xs := #[.tmp 9, .tmp 12]) rfl ?_); at_builtin; refine Kd.R_append k26 (w0 := w) w.heap.size rfl (.tmp 9) (.tmp 12) 58 26 (.agg #[(.int .i32 0), (.int .i32 0), (.int .i32 0), (.int .u8 0), (.int .u8 0), (.int .u8 0), (.int .u8 0)]) 16 rfl Try.underlying58 info26 rfl (by decide) (by omega) u5 x5_1 (⟨t218, (⟨t219, t220⟩ : S22), t221, (⟨t222, t223, t224⟩ : S24)⟩ : S26) [.int .i32 t218, .int .i32 t219, .int .i32 t220, .int .u8 t221, .int .u8 t222, .int .u8 t223, .int .u8 t224] (fun _ => True) (fun _ => False) rfl rfl ?aP (fun _ hk => hk.elim) ?aF ?aO ?aB ?aS ?aL ?_; (case aP => exact k26_mkM _ _ _ (⟨t218, (⟨t219, t220⟩ : S22), t221, (⟨t222, t223, t224⟩ : S24)⟩ : S26)); (case aB => exact bS); (case aF => exact (fun _ _ => trivial)); (case aO => exact (rr HO_5)); (case aS => exact (below_size bS)); (case aL => have := LMc6.out; omega); intro v226 w9 ho hb hg hat; rw [← Ny225.out] at ho; replace BK217 := aS (blk_grown (kb BK217) hg (Kd.R_ne HO_5.out BK217.out (by decide))); replace HB := aS (hb); have HO227 := aS (ho); clear HO_5; clear ho hb hg hat))
    go_roundg k1
    case measure => have := HK1.out; omega
    case rel => exact ⟨(y225), (wrap64 (x7_1 + 1)), fS, H', ⟨by have := HK1.out; omega⟩, ⟨rr HO227⟩, ⟨kb BK217⟩, ⟨bS⟩⟩
   ·rw [if_neg c4] at H
    have c4b0 : decide (x7_1 < a0) = false := decide_eq_false c4
    clear c4
    obtain rfl := Option.some.inj H
    go_wp2
    go_ret
    exact ⟨_, by first | rfl | (simp <;> rfl) | (simp [*] <;> rfl), rr HO_5, bS⟩
def line_Erase.f (k : Nat) (l0 : List (S26)) (a1 : Int) (a2 : Int) (a3_0 : Int) (a3_1 : Int) (a3_2 : Int) : Option ((List (S26))) := (line_blanks.f k (mx 0 (wrap64 ((mn (mx a2 0) (l0.length : Int)) - (mn (mx a1 0) (l0.length : Int))))) a3_0 a3_1 a3_2).bind fun t229 => ((line_laid.f l0 (mn (mx a1 0) (l0.length : Int)) t229).bind fun t232 => (some t232))
set_option maxHeartbeats 8000000 in
set_option maxRecDepth 100000 in
theorem line_Erase.calls (k : Nat) (A0 : Option Addr) (c0 : Nat) (l0 : List (S26)) (a1 : Int) (a2 : Int) (a3_0 : Int) (a3_1 : Int) (a3_2 : Int) (r : List (S26)) (w : World) (hr0 : Kd.C k26 w A0 l0.length l0) (hc0 : l0.length ≤ c0) (h : line_Erase.f k l0 a1 a2 a3_0 a3_1 a3_2 = some r) :
 Calls Try.prog 40 #[.slice A0 l0.length c0, .int .i64 a1, .int .i64 a2, .agg #[.int .u8 a3_0, .int .u8 a3_1, .int .u8 a3_2]] w fun e w' => ∃ v0_ : Value, e = .returned (v0_) ∧ Kd.R k26 26 w' w.heap.size (fun _ => True) v0_ r ∧ Below w.heap.size w w' := by
 have hu24 := Try.underlying24
 have HR0 := aS hr0
 have HC0 := aS hc0
 clear hr0 hc0
 have HB := aS (Below.refl w.heap.size w)
 have H : ((line_blanks.f k (mx 0 (wrap64 ((mn (mx a2 0) (l0.length : Int)) - (mn (mx a1 0) (l0.length : Int))))) a3_0 a3_1 a3_2).bind fun t229 => ((line_laid.f l0 (mn (mx a1 0) (l0.length : Int)) t229).bind fun t232 => (some t232))) = some r := h
 clear h
 obtain ⟨ji5, hji5⟩ : ∃ j_ : Int, (mx a1 0) = j_ := ⟨_, rfl⟩
 replace H : ((line_blanks.f k (mx 0 (wrap64 ((mn (mx a2 0) (l0.length : Int)) - (mn (ji5) (l0.length : Int))))) a3_0 a3_1 a3_2).bind fun t229 => ((line_laid.f l0 (mn (ji5) (l0.length : Int)) t229).bind fun t232 => (some t232))) = some r := by first | (rw [hji5] at H; exact H) | (simp only [hji5] at H ⊢; exact H)
 (try (have hji5l : 0 ≤ ji5 := by (rw [← hji5]; unfold mx; (repeat' split) <;> omega)))
 (try (have hji5m : 0 ≤ ji5 := by omega))
 have hji5_ : (if a1 < 0 then 0 else a1) = ji5 := hji5
 obtain ⟨ji6, hji6⟩ : ∃ j_ : Int, (mn (ji5) (l0.length : Int)) = j_ := ⟨_, rfl⟩
 replace H : ((line_blanks.f k (mx 0 (wrap64 ((mn (mx a2 0) (l0.length : Int)) - (ji6)))) a3_0 a3_1 a3_2).bind fun t229 => ((line_laid.f l0 (ji6) t229).bind fun t232 => (some t232))) = some r := by first | (rw [hji6] at H; exact H) | (simp only [hji6] at H ⊢; exact H)
 have hji6_ : (if (l0.length : Int) < (ji5) then (l0.length : Int) else (ji5)) = ji6 := hji6
 obtain ⟨ji7, hji7⟩ : ∃ j_ : Int, (mx a2 0) = j_ := ⟨_, rfl⟩
 replace H : ((line_blanks.f k (mx 0 (wrap64 ((mn (ji7) (l0.length : Int)) - (ji6)))) a3_0 a3_1 a3_2).bind fun t229 => ((line_laid.f l0 (ji6) t229).bind fun t232 => (some t232))) = some r := by first | (rw [hji7] at H; exact H) | (simp only [hji7] at H ⊢; exact H)
 (try (have hji7l : 0 ≤ ji7 := by (rw [← hji7]; unfold mx; (repeat' split) <;> omega)))
 (try (have hji7m : 0 ≤ ji7 := by omega))
 have hji7_ : (if a2 < 0 then 0 else a2) = ji7 := hji7
 obtain ⟨ji8, hji8⟩ : ∃ j_ : Int, (mn (ji7) (l0.length : Int)) = j_ := ⟨_, rfl⟩
 replace H : ((line_blanks.f k (mx 0 (wrap64 ((ji8) - (ji6)))) a3_0 a3_1 a3_2).bind fun t229 => ((line_laid.f l0 (ji6) t229).bind fun t232 => (some t232))) = some r := by first | (rw [hji8] at H; exact H) | (simp only [hji8] at H ⊢; exact H)
 have hji8_ : (if (l0.length : Int) < (ji7) then (l0.length : Int) else (ji7)) = ji8 := hji8
 obtain ⟨ji9, hji9⟩ : ∃ j_ : Int, (mx 0 (wrap64 ((ji8) - (ji6)))) = j_ := ⟨_, rfl⟩
 replace H : ((line_blanks.f k (ji9) a3_0 a3_1 a3_2).bind fun t229 => ((line_laid.f l0 (ji6) t229).bind fun t232 => (some t232))) = some r := by first | (rw [hji9] at H; exact H) | (simp only [hji9] at H ⊢; exact H)
 have hji9_ : (if 0 < (wrap64 ((ji8) - (ji6))) then (wrap64 ((ji8) - (ji6))) else 0) = ji9 := hji9
 replace H := Option.bind_eq_some_iff.mp H
 obtain ⟨t229, A100, H⟩ := H
 try dsimp only at H
 have A10 := aS A100
 clear A100
 replace H := Option.bind_eq_some_iff.mp H
 obtain ⟨t232, A110, H⟩ := H
 try dsimp only at H
 have A11 := aS A110
 clear A110
 obtain rfl := Option.some.inj H
 go_enter Try.func40, Try.ntmps40
 go_wp2_with (first | (refine bx 7 #[.int .u8 a3_0, .int .u8 a3_1, .int .u8 a3_2] 24 ?_; intro gb228 hg w12 hbox hb; have BK228 := aS (hbox); have GW228 := aS (gw HB hg); have GE228 := aS (gw HB hg); replace HB := aS (below_step bB hb); clear hb hbox hg; have hz13 := cel3 BK228.out) | ((with_reducible refine gate_callee (f := 99) rfl ?_); refine goesL_ (some 26) rfl rfl Try.func99 (by kernel_rfl) rfl #[.int .i64 ji9, .agg #[.int .u8 a3_0, .int .u8 a3_1, .int .u8 a3_2]] rfl (by (try simp only [List.map_toArray, List.map_cons, List.map_nil]); first | done | (simp only [hji9]; rfl) | rfl | (simp only [List.length_drop, List.length_take]; rfl)) ?_; (with_reducible refine (line_blanks.calls k ji9 a3_0 a3_1 a3_2 t229 _ A10.out).mono ?_); rintro e w14 ⟨v230, rfl, ho0, hb⟩; refine ⟨_, rfl, ?_⟩; have HO231 := aS (Kd.R_lower ho0 (below_size bS)); replace BK228 := aS (blk_below (kb BK228) hb); replace HB := aS (below_step bS hb); (try clear hb); (try clear hb2); (try clear hk); (try clear hi); (try clear ho0); obtain ⟨Ao15, co15, eo15⟩ := Kd.R_slice HO231.out; subst eo15) | ((with_reducible refine gate_callee (f := 96) rfl ?_); refine goesL_ (some 27) rfl rfl Try.func96 (by kernel_rfl) rfl #[.slice A0 l0.length c0, .int .i64 ji6, .slice Ao15 t229.length co15] rfl (by (try simp only [List.map_toArray, List.map_cons, List.map_nil]); first | done | (simp only [hji6]; rfl) | rfl | (simp only [List.length_drop, List.length_take]; rfl)) ?_; (with_reducible refine (line_laid.calls _ _ l0 ji6 _ _ t229 t232 _ ?side1 ?side2 ?side3 ?side4 A11.out).mono ?_); (case side1 => repeat (first | exact (Kd.C_below HR0.out HB.out) | (with_reducible refine Kd.C_alloc ?_ _) | (with_reducible refine Kd.C_drewN ?_ _) | (with_reducible refine Kd.C_drew ?_))); (case side2 => exact HC0.out); (case side3 => exact rC (Kd.R_reads' HO231.out)); (case side4 => exact (Kd.R_reads' HO231.out).2.1); rintro e w16 ⟨v233, rfl, ho0, hb⟩; refine ⟨_, rfl, ?_⟩; have HO234 := aS (Kd.R_lower (Kd.R_new' ho0 (Kd.R_lt (rr HO231))) (below_size bS)); replace HO231 := aS (Kd.R_elder' (rr HO231) (Kd.R_base ho0) hb); replace BK228 := aS (blk_below (kb BK228) hb); replace HB := aS (below_step bS hb); (try clear hb); (try clear hb2); (try clear hk); (try clear hi); (try clear ho0)))
 go_ret
 exact ⟨_, by first | rfl | (simp <;> rfl) | (simp only [← hji5, ← hji6, ← hji7, ← hji8, ← hji9]; first | rfl | (simp <;> rfl)) | (simp [*] <;> rfl), by (with_reducible repeat (first | apply rA | apply rN | apply rD)); exact Kd.R_mono HO234.out (fun _ hk => trivial), bS⟩
def line_length.f (a0 : Int) : Option (Int) := some (mn (mx a0 0) 512)
set_option maxHeartbeats 8000000 in
set_option maxRecDepth 100000 in
theorem line_length.calls (a0 : Int) (r : Int) (w : World) (h : line_length.f a0 = some r) :
 Calls Try.prog 98 #[.int .i64 a0] w fun e w' => e = .returned (.int .i64 r) ∧ Below w.heap.size w w' := by
 have HB := aS (Below.refl w.heap.size w)
 have H : (some (mn (mx a0 0) 512)) = some r := h
 clear h
 obtain ⟨ji2, hji2⟩ : ∃ j_ : Int, (mx a0 0) = j_ := ⟨_, rfl⟩
 replace H : (some (mn (ji2) 512)) = some r := by first | (rw [hji2] at H; exact H) | (simp only [hji2] at H ⊢; exact H)
 (try (have hji2l : 0 ≤ ji2 := by (rw [← hji2]; unfold mx; (repeat' split) <;> omega)))
 (try (have hji2m : 0 ≤ ji2 := by omega))
 have hji2_ : (if a0 < 0 then 0 else a0) = ji2 := hji2
 obtain ⟨ji3, hji3⟩ : ∃ j_ : Int, (mn (ji2) 512) = j_ := ⟨_, rfl⟩
 replace H : (some ji3) = some r := by first | (rw [hji3] at H; exact H) | (simp only [hji3] at H ⊢; exact H)
 have hji3_ : (if 512 < (ji2) then 512 else (ji2)) = ji3 := hji3
 obtain rfl := Option.some.inj H
 go_enter Try.func98, Try.ntmps98
 go_wp2
 go_ret
 exact ⟨by first | rfl | (simp <;> rfl) | (simp only [← hji2, ← hji3]; first | rfl | (simp <;> rfl)) | (simp [*] <;> rfl), bB⟩
def line_New.f (k : Nat) (a0 : Int) : Option ((List (S26))) := (line_length.f a0).bind fun t235 => ((line_blanks.f k t235 0 0 0).bind fun t236 => (some t236))
set_option maxHeartbeats 8000000 in
set_option maxRecDepth 100000 in
theorem line_New.calls (k : Nat) (a0 : Int) (r : List (S26)) (w : World) (h : line_New.f k a0 = some r) :
 Calls Try.prog 51 #[.int .i64 a0] w fun e w' => ∃ v0_ : Value, e = .returned (v0_) ∧ Kd.R k26 26 w' w.heap.size (fun _ => True) v0_ r ∧ Below w.heap.size w w' := by
 have hu24 := Try.underlying24
 have HB := aS (Below.refl w.heap.size w)
 have H : ((line_length.f a0).bind fun t235 => ((line_blanks.f k t235 0 0 0).bind fun t236 => (some t236))) = some r := h
 clear h
 replace H := Option.bind_eq_some_iff.mp H
 obtain ⟨t235, A20, H⟩ := H
 try dsimp only at H
 have A2 := aS A20
 clear A20
 replace H := Option.bind_eq_some_iff.mp H
 obtain ⟨t236, A30, H⟩ := H
 try dsimp only at H
 have A3 := aS A30
 clear A30
 obtain rfl := Option.some.inj H
 go_enter Try.func51, Try.ntmps51
 go_wp2_with (first | (refine gL 98 4 Try.func98 #[.int .i64 a0] ?_; (with_reducible refine (line_length.calls a0 t235 _ A2.out).mono ?_); rintro e w4 ⟨rfl, hb⟩; refine ⟨_, rfl, ?_⟩; replace HB := aS (below_step bB hb); (try clear hb); (try clear hb2); (try clear hk); (try clear hi)) | (refine gL 99 6 Try.func99 #[.int .i64 t235, .agg #[.int .u8 0, .int .u8 0, .int .u8 0]] ?_; (with_reducible refine (line_blanks.calls k t235 0 0 0 t236 _ A3.out).mono ?_); rintro e w5 ⟨v237, rfl, ho0, hb⟩; refine ⟨_, rfl, ?_⟩; have HO238 := aS (Kd.R_lower ho0 (below_size bB)); replace HB := aS (below_step bB hb); (try clear hb); (try clear hb2); (try clear hk); (try clear hi); (try clear ho0)))
 go_ret
 exact ⟨_, by first | rfl | (simp <;> rfl) | (simp [*] <;> rfl), rr HO238, bB⟩
def line_Fit.f (k : Nat) (l0 : List (S26)) (a1 : Int) : Option ((List (S26))) := (line_length.f a1).bind fun t241 => (if t241 ≤ (l0.length : Int) then (if 0 ≤ t241 then ((line_Mend.f (l0.take (t241 : Int).toNat)).bind fun t246 => (some t246)) else (none)) else ((cell_Cell_95.f l0).bind fun t249 => ((line_blanks.f k (wrap64 (t241 - (l0.length : Int))) 0 0 0).bind fun t252 => (if t249.length + t252.length < 8796093022208 then ((line_Mend.f (t249 ++ t252)).bind fun t258 => (some t258)) else (none)))))
set_option maxHeartbeats 8000000 in
set_option maxRecDepth 100000 in
theorem line_Fit.calls (k : Nat) (A0 : Option Addr) (c0 : Nat) (l0 : List (S26)) (a1 : Int) (r : List (S26)) (w : World) (hr0 : Kd.C k26 w A0 l0.length l0) (hc0 : l0.length ≤ c0) (h : line_Fit.f k l0 a1 = some r) :
 Calls Try.prog 39 #[.slice A0 l0.length c0, .int .i64 a1] w fun e w' => ∃ v0_ : Value, e = .returned (v0_) ∧ Kd.R k26 26 w' w.heap.size (fun _ => True) v0_ r ∧ Below w.heap.size w w' := by
 have hu24 := Try.underlying24
 have HR0 := aS hr0
 have HC0 := aS hc0
 clear hr0 hc0
 have HB := aS (Below.refl w.heap.size w)
 have H : ((line_length.f a1).bind fun t241 => (if t241 ≤ (l0.length : Int) then (if 0 ≤ t241 then ((line_Mend.f (l0.take (t241 : Int).toNat)).bind fun t246 => (some t246)) else (none)) else ((cell_Cell_95.f l0).bind fun t249 => ((line_blanks.f k (wrap64 (t241 - (l0.length : Int))) 0 0 0).bind fun t252 => (if t249.length + t252.length < 8796093022208 then ((line_Mend.f (t249 ++ t252)).bind fun t258 => (some t258)) else (none)))))) = some r := h
 clear h
 replace H := Option.bind_eq_some_iff.mp H
 obtain ⟨t241, A30, H⟩ := H
 try dsimp only at H
 have A3 := aS A30
 clear A30
 by_cases c4 : t241 ≤ (l0.length : Int)
 ·rw [if_pos c4] at H
  have c4b0 : decide (t241 ≤ (l0.length : Int)) = true := decide_eq_true c4
  clear c4
  obtain ⟨c5, H⟩ := ifS H
  have c5b0 := eq_true c5
  have c5b1 : decide (0 ≤ t241) = true := decide_eq_true c5
  clear c5
  have c6b0 := eq_true (dA : t241 ≤ (l0.length : Int))
  obtain ⟨y242, hy242⟩ : ∃ y_ : List (S26), y_ = (l0.take (t241 : Int).toNat) := ⟨_, rfl⟩
  replace H : ((line_Mend.f y242).bind fun t246 => (some t246)) = some r := rq hy242 H
  have Ny242 := aS hy242
  clear hy242
  replace H := Option.bind_eq_some_iff.mp H
  obtain ⟨t246, A70, H⟩ := H
  try dsimp only at H
  have A7 := aS A70
  clear A70
  obtain rfl := Option.some.inj H
  go_enter Try.func39, Try.ntmps39
  go_wp2_with (first | (refine gL 98 6 Try.func98 #[.int .i64 a1] ?_; (with_reducible refine (line_length.calls a1 t241 _ A3.out).mono ?_); rintro e w8 ⟨rfl, hb⟩; refine ⟨_, rfl, ?_⟩; replace HB := aS (below_step bB hb); (try clear hb); (try clear hb2); (try clear hk); (try clear hi); have q9 : (t241 : Int) ≤ ((l0.length : Int) : Int) := dA; obtain ⟨i09, hi09, _, hsz9, _⟩ := info_parts info26; have hroom9 : l0.length ≤ c0 := HC0.out; have hC9 : Kd.C k26 _ A0 l0.length l0 := HR0.out; have hcut9 := cut_to (P := Try.prog) 58 26 .i64 Try.underlying58 hi09 A0 l0.length c0 t241 (dA) q9 hroom9; have hr9 := Kd.C_take (m := (t241 : Int).toNat) hC9 (by omega); have hy9 : y242.length = (t241 : Int).toNat := (by rw [Ny242.out, List.length_take]; omega); rw [← Ny242.out] at hr9; rw [← hy9] at hcut9; have HR245 := aS hr9; have HC245 := aS (show y242.length ≤ c0 from by omega); clear hr9 hC9 hroom9 hi09 hsz9; have KY9 := aS hy9; clear hy9; replace q9 := eq_true q9) | (refine gL 49 14 Try.func49 #[.slice A0 y242.length c0] ?_; (with_reducible refine (line_Mend.calls _ _ y242 t246 _ ?side1 ?side2 A7.out).mono ?_); (case side1 => repeat (first | exact (Kd.C_below HR245.out HB.out) | (with_reducible refine Kd.C_alloc ?_ _) | (with_reducible refine Kd.C_drewN ?_ _) | (with_reducible refine Kd.C_drew ?_))); (case side2 => exact HC245.out); rintro e w10 ⟨v247, rfl, ho0, hb⟩; refine ⟨_, rfl, ?_⟩; have HO248 := aS (Kd.R_lower ho0 (below_size bB)); replace HB := aS (below_step bB hb); (try clear hb); (try clear hb2); (try clear hk); (try clear hi); (try clear ho0)))
  go_ret
  exact ⟨_, by first | rfl | (simp <;> rfl) | (simp [*] <;> rfl), rr HO248, bB⟩
 ·rw [if_neg c4] at H
  have c4b0 : decide (t241 ≤ (l0.length : Int)) = false := decide_eq_false c4
  clear c4
  replace H := Option.bind_eq_some_iff.mp H
  obtain ⟨t249, A110, H⟩ := H
  try dsimp only at H
  have A11 := aS A110
  clear A110
  replace H := Option.bind_eq_some_iff.mp H
  obtain ⟨t252, A120, H⟩ := H
  try dsimp only at H
  have A12 := aS A120
  clear A120
  obtain ⟨c13, H⟩ := ifS H
  have LMc13 := aS c13
  clear c13
  obtain ⟨y255, hy255⟩ : ∃ y_ : List (S26), y_ = (t249 ++ t252) := ⟨_, rfl⟩
  replace H : ((line_Mend.f y255).bind fun t258 => (some t258)) = some r := rq hy255 H
  have Ny255 := aS hy255
  clear hy255
  replace H := Option.bind_eq_some_iff.mp H
  obtain ⟨t258, A140, H⟩ := H
  try dsimp only at H
  have A14 := aS A140
  clear A140
  obtain rfl := Option.some.inj H
  go_enter Try.func39, Try.ntmps39
  go_wp2_with (first | (refine gL 98 6 Try.func98 #[.int .i64 a1] ?_; (with_reducible refine (line_length.calls a1 t241 _ A3.out).mono ?_); rintro e w15 ⟨rfl, hb⟩; refine ⟨_, rfl, ?_⟩; replace HB := aS (below_step bB hb); (try clear hb); (try clear hb2); (try clear hk); (try clear hi)) | (refine gL 95 16 Try.func95 #[.slice A0 l0.length c0] ?_; (with_reducible refine (cell_Cell_95.calls _ _ l0 t249 _ ?side1 ?side2 A11.out).mono ?_); (case side1 => repeat (first | exact (Kd.C_below HR0.out HB.out) | (with_reducible refine Kd.C_alloc ?_ _) | (with_reducible refine Kd.C_drewN ?_ _) | (with_reducible refine Kd.C_drew ?_))); (case side2 => exact HC0.out); rintro e w16 ⟨v250, rfl, ho0, hb⟩; refine ⟨_, rfl, ?_⟩; have HO251 := aS (Kd.R_lower ho0 (below_size bB)); replace HB := aS (below_step bB hb); (try clear hb); (try clear hb2); (try clear hk); (try clear hi); (try clear ho0)) | (refine gL 99 22 Try.func99 #[.int .i64 (wrap64 (t241 - (l0.length : Int))), .agg #[.int .u8 0, .int .u8 0, .int .u8 0]] ?_; (with_reducible refine (line_blanks.calls k (wrap64 (t241 - (l0.length : Int))) 0 0 0 t252 _ A12.out).mono ?_); rintro e w17 ⟨v253, rfl, ho0, hb⟩; refine ⟨_, rfl, ?_⟩; have HO254 := aS (Kd.R_lower (Kd.R_new' ho0 (Kd.R_lt (rr HO251))) (below_size bB)); replace HO251 := aS (Kd.R_elder' (rr HO251) (Kd.R_base ho0) hb); replace HB := aS (below_step bB hb); (try clear hb); (try clear hb2); (try clear hk); (try clear hi); (try clear ho0); obtain ⟨Ao19, co19, eo19⟩ := Kd.R_slice HO254.out; subst eo19) | ((with_reducible refine gate_builtin (b := .append) (xs := #[.tmp 16, .tmp 22]) rfl ?_); at_builtin; refine Kd.R_append_rows k26 (w0 := w) w.heap.size rfl (.tmp 16) (.tmp 22) 58 26 (.agg #[(.int .i32 0), (.int .i32 0), (.int .i32 0), (.int .u8 0), (.int .u8 0), (.int .u8 0), (.int .u8 0)]) 16 rfl Try.underlying58 info26 rfl (by decide) (by omega) v250 t249 t252 _ _ _ (fun k_ => some k_ ≠ (.slice Ao19 t252.length co19 : Value).ownBlock) (fun _ => False) rfl rfl ?aO ?aR (fun _ _ h => h) (fun _ h => h.elim) ?aF ?aB ?aS ?aL ?_; (case aR => exact rC (Kd.R_reads' HO254.out)); (case aB => exact bB); (case aF => exact (fun k_ hk => Kd.fresh' (Kd.R_lt (rr HO254)) k_ hk)); (case aO => exact (by (with_reducible repeat (first | apply rA | apply rN | apply rD)); exact Kd.R_mono HO251.out (fun _ hk => hk.2))); (case aS => exact (below_size bB)); (case aL => have := LMc13.out; omega); intro v256 w18 ho hb hg hat; rw [← Ny255.out] at ho; replace HO254 := aS (Kd.R_after (ok := (fun _ => True)) (rr HO254) hg hat); replace HB := aS (hb); have HO257 := aS (ho); clear HO251; clear ho hb hg hat; obtain ⟨Ao20, co20, eo20⟩ := Kd.R_slice HO257.out; subst eo20) | (refine gL 49 24 Try.func49 #[.slice Ao20 y255.length co20] ?_; (with_reducible refine (line_Mend.calls _ _ y255 t258 _ ?side1 ?side2 A14.out).mono ?_); (case side1 => exact rC (Kd.R_reads' HO257.out)); (case side2 => exact (Kd.R_reads' HO257.out).2.1); rintro e w21 ⟨v259, rfl, ho0, hb⟩; refine ⟨_, rfl, ?_⟩; have HO260 := aS (Kd.R_lower (Kd.R_new' (Kd.R_new' ho0 (Kd.R_lt (rr HO254))) (Kd.R_lt (rr HO257))) (below_size bB)); replace HO254 := aS (Kd.R_elder' (rr HO254) (Kd.R_base ho0) hb); replace HO257 := aS (Kd.R_elder' (rr HO257) (Kd.R_base ho0) hb); replace HB := aS (below_step bB hb); (try clear hb); (try clear hb2); (try clear hk); (try clear hi); (try clear ho0)))
  go_ret
  exact ⟨_, by first | rfl | (simp <;> rfl) | (simp [*] <;> rfl), by (with_reducible repeat (first | apply rA | apply rN | apply rD)); exact Kd.R_mono HO260.out (fun _ hk => trivial), bB⟩
def grid_side.f (a0 : Int) : Option (Bool) := if a0 ≥ 1 then (some (decide (a0 ≤ 512))) else (some false)
set_option maxHeartbeats 8000000 in
set_option maxRecDepth 100000 in
theorem grid_side.calls (a0 : Int) (r : Bool) (w : World) (h : grid_side.f a0 = some r) :
 Calls Try.prog 112 #[.int .i64 a0] w fun e w' => e = .returned (.bool r) ∧ Drawn0 w w' := by
 have H : (if a0 ≥ 1 then (some (decide (a0 ≤ 512))) else (some false)) = some r := h
 clear h
 by_cases c2 : a0 ≥ 1
 ·rw [if_pos c2] at H
  have c2b0 : decide (1 ≤ a0) = true := decide_eq_true c2
  clear c2
  obtain rfl := Option.some.inj H
  go_enter Try.func112, Try.ntmps112
  go_wp2
  go_ret
  exact ⟨by first | rfl | (simp; done) | (simp [*]; done), by repeat (first | exact Drawn0.refl _ | apply Drawn0.step)⟩
 ·rw [if_neg c2] at H
  have c2b0 : decide (1 ≤ a0) = false := decide_eq_false c2
  clear c2
  obtain rfl := Option.some.inj H
  go_enter Try.func112, Try.ntmps112
  go_wp2
  go_ret
  exact ⟨by first | rfl | (simp; done) | (simp [*]; done), by repeat (first | exact Drawn0.refl _ | apply Drawn0.step)⟩
def prolepsislaw07_small.f (a0 : Int) : Option (Int) := if a0 > 30 then (if a0 ≤ 512 then (some 30) else (some a0)) else (some a0)
set_option maxHeartbeats 8000000 in
set_option maxRecDepth 100000 in
theorem prolepsislaw07_small.calls (a0 : Int) (r : Int) (w : World) (h : prolepsislaw07_small.f a0 = some r) :
 Calls Try.prog 75 #[.int .i64 a0] w fun e w' => e = .returned (.int .i64 r) ∧ Drawn0 w w' := by
 have H : (if a0 > 30 then (if a0 ≤ 512 then (some 30) else (some a0)) else (some a0)) = some r := h
 clear h
 by_cases c2 : a0 > 30
 ·rw [if_pos c2] at H
  have c2b0 : decide (30 < a0) = true := decide_eq_true c2
  clear c2
  by_cases c3 : a0 ≤ 512
  ·rw [if_pos c3] at H
   have c3b0 : decide (a0 ≤ 512) = true := decide_eq_true c3
   clear c3
   obtain rfl := Option.some.inj H
   go_enter Try.func75, Try.ntmps75
   go_wp2
   go_ret
   exact ⟨by first | rfl | (simp; done) | (simp [*]; done), by repeat (first | exact Drawn0.refl _ | apply Drawn0.step)⟩
  ·rw [if_neg c3] at H
   have c3b0 : decide (a0 ≤ 512) = false := decide_eq_false c3
   clear c3
   obtain rfl := Option.some.inj H
   go_enter Try.func75, Try.ntmps75
   go_wp2
   go_ret
   exact ⟨by first | rfl | (simp; done) | (simp [*]; done), by repeat (first | exact Drawn0.refl _ | apply Drawn0.step)⟩
 ·rw [if_neg c2] at H
  have c2b0 : decide (30 < a0) = false := decide_eq_false c2
  clear c2
  obtain rfl := Option.some.inj H
  go_enter Try.func75, Try.ntmps75
  go_wp2
  go_ret
  exact ⟨by first | rfl | (simp; done) | (simp [*]; done), by repeat (first | exact Drawn0.refl _ | apply Drawn0.step)⟩
def prolepsisref07_Size.f (a0 : Int) (a1 : Int) : Option (Bool) := if a0 ≥ 1 then (if a0 ≤ 512 then (if a1 ≥ 1 then (some (decide (a1 ≤ 512))) else (some false)) else (some false)) else (some false)
set_option maxHeartbeats 8000000 in
set_option maxRecDepth 100000 in
theorem prolepsisref07_Size.calls (a0 : Int) (a1 : Int) (r : Bool) (w : World) (h : prolepsisref07_Size.f a0 a1 = some r) :
 Calls Try.prog 77 #[.int .i64 a0, .int .i64 a1] w fun e w' => e = .returned (.bool r) ∧ Drawn0 w w' := by
 have H : (if a0 ≥ 1 then (if a0 ≤ 512 then (if a1 ≥ 1 then (some (decide (a1 ≤ 512))) else (some false)) else (some false)) else (some false)) = some r := h
 clear h
 by_cases c3 : a0 ≥ 1
 ·rw [if_pos c3] at H
  have c3b0 : decide (1 ≤ a0) = true := decide_eq_true c3
  clear c3
  by_cases c4 : a0 ≤ 512
  ·rw [if_pos c4] at H
   have c4b0 : decide (a0 ≤ 512) = true := decide_eq_true c4
   clear c4
   by_cases c5 : a1 ≥ 1
   ·rw [if_pos c5] at H
    have c5b0 : decide (1 ≤ a1) = true := decide_eq_true c5
    clear c5
    obtain rfl := Option.some.inj H
    go_enter Try.func77, Try.ntmps77
    go_wp2
    go_ret
    exact ⟨by first | rfl | (simp; done) | (simp [*]; done), by repeat (first | exact Drawn0.refl _ | apply Drawn0.step)⟩
   ·rw [if_neg c5] at H
    have c5b0 : decide (1 ≤ a1) = false := decide_eq_false c5
    clear c5
    obtain rfl := Option.some.inj H
    go_enter Try.func77, Try.ntmps77
    go_wp2
    go_ret
    exact ⟨by first | rfl | (simp; done) | (simp [*]; done), by repeat (first | exact Drawn0.refl _ | apply Drawn0.step)⟩
  ·rw [if_neg c4] at H
   have c4b0 : decide (a0 ≤ 512) = false := decide_eq_false c4
   clear c4
   obtain rfl := Option.some.inj H
   go_enter Try.func77, Try.ntmps77
   go_wp2
   go_ret
   exact ⟨by first | rfl | (simp; done) | (simp [*]; done), by repeat (first | exact Drawn0.refl _ | apply Drawn0.step)⟩
 ·rw [if_neg c3] at H
  have c3b0 : decide (1 ≤ a0) = false := decide_eq_false c3
  clear c3
  obtain rfl := Option.some.inj H
  go_enter Try.func77, Try.ntmps77
  go_wp2
  go_ret
  exact ⟨by first | rfl | (simp; done) | (simp [*]; done), by repeat (first | exact Drawn0.refl _ | apply Drawn0.step)⟩
end Go.Proofs.Ytblcmcdifgclcaa.PGridSame
