/- GridPlays: what its proof leads to. No condition. -/
import Derived.Test.YtblcmcdifgclcaaGreatG13qGridPlays
import Derived.Test.YtblcmcdifgclcaaGreatG17qGridPlays
import Derived.Test.YtblcmcdifgclcaaGreatG6qGridPlays
namespace Go.Proofs.YtblcmcdifgclcaaGreat.PGridPlays
open Go.RowKit Go.Proofs.YtblcmcdifgclcaaGreatW.PrintWords Go.Proofs.YtblcmcdifgclcaaGreatW.PrintLast Go.Proofs.YtblcmcdifgclcaaGreatW.PrintMore
attribute [local go_sem] isSome_setCell max2_int min2_int max_two min_two
set_option linter.unusedVariables false
set_option linter.unusedSimpArgs false
def prolepsisref05_Right.j0 : Nat → Bool → Int → Int → Int → Int → Int → Int → Int → Option (Bool)
 | 0, _, _, _, _, _, _, _, _ => none
 | k + 1, x13, x302000, x302001, x302002, x302003, x302004, x302005, x302006 => if x13 = true then (some false) else (if x302003 = 0 then (if x302000 = 0 then (if x302001 = 0 then (some (x302002 == 0)) else (some false)) else (some false)) else ((prolepsisref03_Of.f k x302000).bind fun t303 => (if t303 = (wrap64 (x302003)) then (if x302001 = 0 then (if x302002 = 0 then (some true) else ((prolepsisref03_Of.f k x302001).bind fun t304 => (if t304 = 0 then (some false) else (some false)))) else ((prolepsisref03_Of.f k x302001).bind fun t305 => (if t305 = 0 then (if x302002 = 0 then (some true) else ((prolepsisref03_Of.f k x302002).bind fun t306 => (some (t306 == 0)))) else (some false)))) else (some false))))
def prolepsisref05_Right.f (k : Nat) (a0_0 : Int) (a0_1 : Int) (a0_2 : Int) (a0_3 : Int) (a0_4 : Int) (a0_5 : Int) (a0_6 : Int) : Option (Bool) := (prolepsisref04_Right.f a0_4 a0_5 a0_6).bind fun t302 => (if t302 = true then (prolepsisref05_Right.j0 k (decide (a0_3 > 2)) a0_0 a0_1 a0_2 a0_3 a0_4 a0_5 a0_6) else (prolepsisref05_Right.j0 k true a0_0 a0_1 a0_2 a0_3 a0_4 a0_5 a0_6))
def prolepsisref05_Right.T7 : Bool × List (List Nat × List Nat) := (true, [([], []), ([0], [0]), ([1], [1]), ([], []), ([3], [3]), ([4], [4]), ([2, 0, 1, 2], [2]), ([5, 6, 0, 1, 2, 3, 4, 5, 6], [5])])
def prolepsisref05_Right.B7 : List Nat := [0, 1, 3, 0, 8, 24, 7, 127]
theorem prolepsisref05_Right.tab7 : rtab .any (opsOf Tryz.f84 7) = prolepsisref05_Right.T7 := by kernel_rfl
theorem prolepsisref05_Right.bits7 : waitsOk prolepsisref05_Right.T7.2 prolepsisref05_Right.B7 = true := by kernel_rfl
set_option maxHeartbeats 8000000 in
set_option maxRecDepth 100000 in
theorem prolepsisref05_Right.calls (k : Nat) (a0_0 : Int) (a0_1 : Int) (a0_2 : Int) (a0_3 : Int) (a0_4 : Int) (a0_5 : Int) (a0_6 : Int) (r : Bool) (w : World) (h : prolepsisref05_Right.f k a0_0 a0_1 a0_2 a0_3 a0_4 a0_5 a0_6 = some r) :
 Calls Tryz.prog 84 #[.agg #[.int .i64 a0_0, .int .i64 a0_1, .int .i64 a0_2, .int .u8 a0_3, .int .u8 a0_4, .int .u8 a0_5, .int .u8 a0_6]] w fun e w' => e = .returned (.bool r) ∧ Below w.heap.size w w' := by
 have hu52 := Tryz.underlying52
 have hu50 := Tryz.underlying50
 have HB := aS (Below.refl w.heap.size w)
 have H : ((prolepsisref04_Right.f a0_4 a0_5 a0_6).bind fun t302 => (if t302 = true then (prolepsisref05_Right.j0 k (decide (a0_3 > 2)) a0_0 a0_1 a0_2 a0_3 a0_4 a0_5 a0_6) else (prolepsisref05_Right.j0 k true a0_0 a0_1 a0_2 a0_3 a0_4 a0_5 a0_6))) = some r := h
 clear h
 have HC2 := aS H
 clear H
 go_enter Tryz.func84, Tryz.ntmps84
 go_upto_region 1 with (first | (refine bx 1 #[.int .i64 a0_0, .int .i64 a0_1, .int .i64 a0_2, .int .u8 a0_3, .int .u8 a0_4, .int .u8 a0_5, .int .u8 a0_6] 52 ?_; intro gb301 hg w3 hbox hb; have BK301 := aS (hbox); have GW301 := aS (gw HB hg); have GE301 := aS (gw HB hg); replace HB := aS (below_step bB hb); clear hb hbox hg))
 (try simp only [Act.put, List.setIfInBounds_toArray, List.set_cons_zero, List.set_cons_succ])
 go_cut [13] (fun v13 wc => ∃ (kq : Nat) (x13_1 : Bool), v13 = .bool x13_1 ∧ Aside0 (prolepsisref05_Right.j0 kq x13_1 a0_0 a0_1 a0_2 a0_3 a0_4 a0_5 a0_6 = some r) ∧ Aside0 (kq ≤ k) ∧ Aside0 (wc.heap[gb301]? = some (.cells #[.int .i64 a0_0, .int .i64 a0_1, .int .i64 a0_2, .int .u8 a0_3, .int .u8 a0_4, .int .u8 a0_5, .int .u8 a0_6] 52 (0, 0))) ∧ Aside0 (Below w.heap.size w wc))
 case first =>
  have H := HC2.out
  clear HC2
  replace H := Option.bind_eq_some_iff.mp H
  obtain ⟨t302, A40, H⟩ := H
  try dsimp only at H
  have A4 := aS A40
  clear A40
  by_cases c5 : t302 = true
  ·subst c5
   have H1 : (prolepsisref05_Right.j0 k (decide (a0_3 > 2)) a0_0 a0_1 a0_2 a0_3 a0_4 a0_5 a0_6) = some r := by rw [if_pos rfl] at H; exact H
   clear H
   have H := H1
   clear H1
   have H' := aS H
   clear H
   have hz6 := cel7 BK301.out
   go_wp2_with (first | (refine gL 71 7 Tryz.func71 #[.agg #[.int .u8 a0_4, .int .u8 a0_5, .int .u8 a0_6]] ?_; (with_reducible refine (prolepsisref04_Right.calls a0_4 a0_5 a0_6 true _ A4.out).mono ?_); rintro e w7 ⟨rfl, hb⟩; refine ⟨_, rfl, ?_⟩; replace BK301 := aS (blk_below (kb BK301) hb); replace HB := aS (below_step bS hb); (try clear hb); (try clear hb2); (try clear hk); (try clear hi); have hz8 := cel7 BK301.out))
   go_meet
   case rel => exact ⟨_, (decide (a0_3 > 2)), fS, H', ⟨by first | omega | exact Nat.le_refl _⟩, ⟨kb BK301⟩, ⟨bS⟩⟩
  ·replace c5 := Bool.eq_false_iff.mpr c5
   subst c5
   have H1 : (prolepsisref05_Right.j0 k true a0_0 a0_1 a0_2 a0_3 a0_4 a0_5 a0_6) = some r := by rw [if_neg (show ¬ (false = true) by decide)] at H; exact H
   clear H
   have H := H1
   clear H1
   have H' := aS H
   clear H
   have hz9 := cel7 BK301.out
   go_wp2_with (first | (refine gL 71 7 Tryz.func71 #[.agg #[.int .u8 a0_4, .int .u8 a0_5, .int .u8 a0_6]] ?_; (with_reducible refine (prolepsisref04_Right.calls a0_4 a0_5 a0_6 false _ A4.out).mono ?_); rintro e w10 ⟨rfl, hb⟩; refine ⟨_, rfl, ?_⟩; replace BK301 := aS (blk_below (kb BK301) hb); replace HB := aS (below_step bS hb); (try clear hb); (try clear hb2); (try clear hk); (try clear hi)))
   go_meet
   case rel => exact ⟨_, (true), fS, H', ⟨by first | omega | exact Nat.le_refl _⟩, ⟨kb BK301⟩, ⟨bS⟩⟩
 case rest =>
  clear HC2
  try clear p2
  try clear c5
  try clear c7
  try clear c8
  try clear hz6
  try clear hz8
  try clear hz9
  obtain ⟨kq, x13_1, rfl, HA, HJ1, BK301, HB⟩ := hcut
  cases kq with
  | zero => exact absurd HA.out (by simp [prolepsisref05_Right.j0])
  | succ kj1 =>
   have H := HA.out
   clear HA
   simp only [prolepsisref05_Right.j0] at H
   by_cases c11 : x13_1 = true
   ·subst c11
    have H1 : (some false) = some r := by rw [if_pos rfl] at H; exact H
    clear H
    have H := H1
    clear H1
    obtain rfl := Option.some.inj H
    go_wp2
    go_ret
    exact ⟨by first | rfl | (simp <;> rfl) | (simp [*] <;> rfl), bS⟩
   ·replace c11 := Bool.eq_false_iff.mpr c11
    subst c11
    have H1 : (if a0_3 = 0 then (if a0_0 = 0 then (if a0_1 = 0 then (some (a0_2 == 0)) else (some false)) else (some false)) else ((prolepsisref03_Of.f kj1 a0_0).bind fun t303 => (if t303 = (wrap64 (a0_3)) then (if a0_1 = 0 then (if a0_2 = 0 then (some true) else ((prolepsisref03_Of.f kj1 a0_1).bind fun t304 => (if t304 = 0 then (some false) else (some false)))) else ((prolepsisref03_Of.f kj1 a0_1).bind fun t305 => (if t305 = 0 then (if a0_2 = 0 then (some true) else ((prolepsisref03_Of.f kj1 a0_2).bind fun t306 => (some (t306 == 0)))) else (some false)))) else (some false)))) = some r := by rw [if_neg (show ¬ (false = true) by decide)] at H; exact H
    clear H
    have H := H1
    clear H1
    by_cases c12 : a0_3 = 0
    ·rw [if_pos c12] at H
     have c12b0 : (a0_3 == 0) = true := beq_iff_eq.mpr c12
     have c12b1 : (a0_3 != 0) = false := bne_eq_false_iff_eq.mpr c12
     clear c12
     by_cases c13 : a0_0 = 0
     ·rw [if_pos c13] at H
      have c13b0 : (a0_0 == 0) = true := beq_iff_eq.mpr c13
      have c13b1 : (a0_0 != 0) = false := bne_eq_false_iff_eq.mpr c13
      clear c13
      by_cases c14 : a0_1 = 0
      ·rw [if_pos c14] at H
       have c14b0 : (a0_1 == 0) = true := beq_iff_eq.mpr c14
       have c14b1 : (a0_1 != 0) = false := bne_eq_false_iff_eq.mpr c14
       clear c14
       obtain rfl := Option.some.inj H
       have hz15 := cel7 BK301.out
       go_wp2
       go_ret
       exact ⟨by first | rfl | (simp <;> rfl) | (simp [*] <;> rfl), bS⟩
      ·rw [if_neg c14] at H
       have c14b0 : (a0_1 == 0) = false := beq_eq_false_iff_ne.mpr c14
       have c14b1 : (a0_1 != 0) = true := bne_iff_ne.mpr c14
       obtain rfl := Option.some.inj H
       have hz16 := cel7 BK301.out
       go_wp2
       go_ret
       exact ⟨by first | rfl | (simp <;> rfl) | (simp [*] <;> rfl), bS⟩
     ·rw [if_neg c13] at H
      have c13b0 : (a0_0 == 0) = false := beq_eq_false_iff_ne.mpr c13
      have c13b1 : (a0_0 != 0) = true := bne_iff_ne.mpr c13
      obtain rfl := Option.some.inj H
      have hz17 := cel7 BK301.out
      go_wp2
      go_ret
      exact ⟨by first | rfl | (simp <;> rfl) | (simp [*] <;> rfl), bS⟩
    ·rw [if_neg c12] at H
     have c12b0 : (a0_3 == 0) = false := beq_eq_false_iff_ne.mpr c12
     have c12b1 : (a0_3 != 0) = true := bne_iff_ne.mpr c12
     replace H := Option.bind_eq_some_iff.mp H
     obtain ⟨t303, A180, H⟩ := H
     try dsimp only at H
     have A18 := aS A180
     clear A180
     by_cases c19 : t303 = (wrap64 (a0_3))
     ·rw [if_pos c19] at H
      have c19b0 : (t303 == (wrap64 (a0_3))) = true := beq_iff_eq.mpr c19
      have c19b1 : (t303 != (wrap64 (a0_3))) = false := bne_eq_false_iff_eq.mpr c19
      clear c19
      by_cases c20 : a0_1 = 0
      ·rw [if_pos c20] at H
       have c20b0 : (a0_1 == 0) = true := beq_iff_eq.mpr c20
       have c20b1 : (a0_1 != 0) = false := bne_eq_false_iff_eq.mpr c20
       clear c20
       by_cases c21 : a0_2 = 0
       ·rw [if_pos c21] at H
        have c21b0 : (a0_2 == 0) = true := beq_iff_eq.mpr c21
        have c21b1 : (a0_2 != 0) = false := bne_eq_false_iff_eq.mpr c21
        clear c21
        obtain rfl := Option.some.inj H
        have hz22 := cel7 BK301.out
        try go_wp2
        replace BK301 := aS (blk_drew BK301.out)
        replace HB := aS (below_drew1 HB.out)
        refine start_ (n := 7) (S := fun w' => w'.cell? ⟨gb301, 0, none⟩ = some (.int .i64 a0_0) ∧ w'.cell? ⟨gb301, 1, none⟩ = some (.int .i64 a0_1) ∧ w'.cell? ⟨gb301, 2, none⟩ = some (.int .i64 a0_2) ∧ w'.cell? ⟨gb301, 3, none⟩ = some (.int .u8 a0_3) ∧ w'.cell? ⟨gb301, 4, none⟩ = some (.int .u8 a0_4) ∧ w'.cell? ⟨gb301, 5, none⟩ = some (.int .u8 a0_5) ∧ w'.cell? ⟨gb301, 6, none⟩ = some (.int .u8 a0_6)) (ds := []) (tb 7 0) (by kernel_rfl) rfl rfl (c7 BK301.out) (fun hHeld => ?_)
        generalize wc.drew = w23 at BK301 HB hHeld ⊢
        refine tP 0 (some 32) (tb 7 1) ?_
        refine tP 3 (some 35) (tb 7 9) ?_
        refine tK 1 (some 33) (tb 7 11) ?_
        refine tK 4 (some 36) (tb 7 27) ?_
        refine tP 5 (some 37) (tb 7 59) ?_
        refine sO 2 (some 34) (tb 7 63) (fun K hK => ?_)
        refine gO Tryz.func105 #[.int .i64 a0_0] ?_
        with_reducible refine (prolepsisref03_Of.calls kj1 a0_0 t303 _ A18.out).mono ?_
        rintro e w24 ⟨rfl, hb⟩
        refine ⟨_, rfl, ?_⟩
        replace BK301 := aS (blk_below (kb BK301) hb)
        replace HB := aS (below_step bS hb)
        (try clear hb)
        (try clear hb2)
        (try clear hk)
        (try clear hi)
        refine hK.out _ _ (c7 BK301.out) (fun hHeld => ?_)
        clear hK K
        refine nm ?_
        refine tP 6 (some 38) (tb 7 127) ?_
        refine done_ (by kernel_rfl) ?_
        try go_wp2
        replace BK301 := aS (blk_drew BK301.out)
        replace HB := aS (below_drew1 HB.out)
        refine start_ (n := 8) (S := fun w' => w'.cell? ⟨gb301, 0, none⟩ = some (.int .i64 a0_0) ∧ w'.cell? ⟨gb301, 1, none⟩ = some (.int .i64 a0_1) ∧ w'.cell? ⟨gb301, 2, none⟩ = some (.int .i64 a0_2) ∧ w'.cell? ⟨gb301, 3, none⟩ = some (.int .u8 a0_3) ∧ w'.cell? ⟨gb301, 4, none⟩ = some (.int .u8 a0_4) ∧ w'.cell? ⟨gb301, 5, none⟩ = some (.int .u8 a0_5) ∧ w'.cell? ⟨gb301, 6, none⟩ = some (.int .u8 a0_6)) (ds := []) (tb 8 0) (by kernel_rfl) rfl rfl (c7 BK301.out) (fun hHeld => ?_); refine with_tabW prolepsisref05_Right.tab7 prolepsisref05_Right.bits7 (fun HT_ HW_ => ?_)
        generalize w24.drew = w25 at BK301 HB hHeld ⊢
        refine tp 0 (some 39) (tb 8 1) ?_
        refine tp 1 (some 40) (tb 8 3) ?_
        refine tp 3 (some 42) (tb 8 11) ?_
        refine tp 4 (some 43) (tb 8 27) ?_
        refine tk 2 (some 41) (tb 8 31) ?_
        refine tp 6 (some 3) (tb 8 95) ?_
        refine tk 5 (some 44) (tb 8 127) ?_
        refine tp 7 (some 4) (tb 8 255) ?_
        refine done_ (done_of HT_.out (by kernel_rfl)) ?_
        try go_wp2
        go_ret
        exact ⟨by first | rfl | (simp <;> rfl) | (simp [*] <;> rfl), bS⟩
       ·rw [if_neg c21] at H
        have c21b0 : (a0_2 == 0) = false := beq_eq_false_iff_ne.mpr c21
        have c21b1 : (a0_2 != 0) = true := bne_iff_ne.mpr c21
        replace H := Option.bind_eq_some_iff.mp H
        obtain ⟨t304, A260, H⟩ := H
        try dsimp only at H
        have A26 := aS A260
        clear A260
        by_cases c27 : t304 = 0
        ·rw [if_pos c27] at H
         have c27b0 : (t304 == 0) = true := beq_iff_eq.mpr c27
         have c27b1 : (t304 != 0) = false := bne_eq_false_iff_eq.mpr c27
         clear c27
         obtain rfl := Option.some.inj H
         have hz28 := cel7 BK301.out
         try go_wp2
         replace BK301 := aS (blk_drew BK301.out)
         replace HB := aS (below_drew1 HB.out)
         refine start_ (n := 7) (S := fun w' => w'.cell? ⟨gb301, 0, none⟩ = some (.int .i64 a0_0) ∧ w'.cell? ⟨gb301, 1, none⟩ = some (.int .i64 a0_1) ∧ w'.cell? ⟨gb301, 2, none⟩ = some (.int .i64 a0_2) ∧ w'.cell? ⟨gb301, 3, none⟩ = some (.int .u8 a0_3) ∧ w'.cell? ⟨gb301, 4, none⟩ = some (.int .u8 a0_4) ∧ w'.cell? ⟨gb301, 5, none⟩ = some (.int .u8 a0_5) ∧ w'.cell? ⟨gb301, 6, none⟩ = some (.int .u8 a0_6)) (ds := []) (tb 7 0) (by kernel_rfl) rfl rfl (c7 BK301.out) (fun hHeld => ?_)
         generalize wc.drew = w29 at BK301 HB hHeld ⊢
         refine tP 0 (some 32) (tb 7 1) ?_
         refine tP 3 (some 35) (tb 7 9) ?_
         refine tK 1 (some 33) (tb 7 11) ?_
         refine tK 4 (some 36) (tb 7 27) ?_
         refine tP 5 (some 37) (tb 7 59) ?_
         refine sO 2 (some 34) (tb 7 63) (fun K hK => ?_)
         refine gO Tryz.func105 #[.int .i64 a0_0] ?_
         with_reducible refine (prolepsisref03_Of.calls kj1 a0_0 t303 _ A18.out).mono ?_
         rintro e w30 ⟨rfl, hb⟩
         refine ⟨_, rfl, ?_⟩
         replace BK301 := aS (blk_below (kb BK301) hb)
         replace HB := aS (below_step bS hb)
         (try clear hb)
         (try clear hb2)
         (try clear hk)
         (try clear hi)
         refine hK.out _ _ (c7 BK301.out) (fun hHeld => ?_)
         clear hK K
         refine nm ?_
         refine tP 6 (some 38) (tb 7 127) ?_
         refine done_ (by kernel_rfl) ?_
         try go_wp2
         replace BK301 := aS (blk_drew BK301.out)
         replace HB := aS (below_drew1 HB.out)
         refine start_ (n := 8) (S := fun w' => w'.cell? ⟨gb301, 0, none⟩ = some (.int .i64 a0_0) ∧ w'.cell? ⟨gb301, 1, none⟩ = some (.int .i64 a0_1) ∧ w'.cell? ⟨gb301, 2, none⟩ = some (.int .i64 a0_2) ∧ w'.cell? ⟨gb301, 3, none⟩ = some (.int .u8 a0_3) ∧ w'.cell? ⟨gb301, 4, none⟩ = some (.int .u8 a0_4) ∧ w'.cell? ⟨gb301, 5, none⟩ = some (.int .u8 a0_5) ∧ w'.cell? ⟨gb301, 6, none⟩ = some (.int .u8 a0_6)) (ds := []) (tb 8 0) (by kernel_rfl) rfl rfl (c7 BK301.out) (fun hHeld => ?_); refine with_tabW prolepsisref05_Right.tab7 prolepsisref05_Right.bits7 (fun HT_ HW_ => ?_)
         generalize w30.drew = w31 at BK301 HB hHeld ⊢
         refine tp 0 (some 39) (tb 8 1) ?_
         refine tp 1 (some 40) (tb 8 3) ?_
         refine tp 3 (some 42) (tb 8 11) ?_
         refine tp 4 (some 43) (tb 8 27) ?_
         refine tk 2 (some 41) (tb 8 31) ?_
         refine tp 6 (some 3) (tb 8 95) ?_
         refine tk 5 (some 44) (tb 8 127) ?_
         refine tp 7 (some 4) (tb 8 255) ?_
         refine done_ (done_of HT_.out (by kernel_rfl)) ?_
         try go_wp2_with (first | (go_at_call 105; (with_reducible refine (prolepsisref03_Of.calls kj1 a0_1 t304 _ A26.out).mono ?_); rintro e w32 ⟨rfl, hb⟩; replace BK301 := aS (blk_below (kb BK301) hb); replace HB := aS (below_step bS hb); (try clear hb); (try clear hb2); (try clear hk); (try clear hi)))
         go_ret
         exact ⟨by first | rfl | (simp <;> rfl) | (simp [*] <;> rfl), bS⟩
        ·rw [if_neg c27] at H
         have c27b0 : (t304 == 0) = false := beq_eq_false_iff_ne.mpr c27
         have c27b1 : (t304 != 0) = true := bne_iff_ne.mpr c27
         obtain rfl := Option.some.inj H
         have hz33 := cel7 BK301.out
         try go_wp2
         replace BK301 := aS (blk_drew BK301.out)
         replace HB := aS (below_drew1 HB.out)
         refine start_ (n := 7) (S := fun w' => w'.cell? ⟨gb301, 0, none⟩ = some (.int .i64 a0_0) ∧ w'.cell? ⟨gb301, 1, none⟩ = some (.int .i64 a0_1) ∧ w'.cell? ⟨gb301, 2, none⟩ = some (.int .i64 a0_2) ∧ w'.cell? ⟨gb301, 3, none⟩ = some (.int .u8 a0_3) ∧ w'.cell? ⟨gb301, 4, none⟩ = some (.int .u8 a0_4) ∧ w'.cell? ⟨gb301, 5, none⟩ = some (.int .u8 a0_5) ∧ w'.cell? ⟨gb301, 6, none⟩ = some (.int .u8 a0_6)) (ds := []) (tb 7 0) (by kernel_rfl) rfl rfl (c7 BK301.out) (fun hHeld => ?_)
         generalize wc.drew = w34 at BK301 HB hHeld ⊢
         refine tP 0 (some 32) (tb 7 1) ?_
         refine tP 3 (some 35) (tb 7 9) ?_
         refine tK 1 (some 33) (tb 7 11) ?_
         refine tK 4 (some 36) (tb 7 27) ?_
         refine tP 5 (some 37) (tb 7 59) ?_
         refine sO 2 (some 34) (tb 7 63) (fun K hK => ?_)
         refine gO Tryz.func105 #[.int .i64 a0_0] ?_
         with_reducible refine (prolepsisref03_Of.calls kj1 a0_0 t303 _ A18.out).mono ?_
         rintro e w35 ⟨rfl, hb⟩
         refine ⟨_, rfl, ?_⟩
         replace BK301 := aS (blk_below (kb BK301) hb)
         replace HB := aS (below_step bS hb)
         (try clear hb)
         (try clear hb2)
         (try clear hk)
         (try clear hi)
         refine hK.out _ _ (c7 BK301.out) (fun hHeld => ?_)
         clear hK K
         refine nm ?_
         refine tP 6 (some 38) (tb 7 127) ?_
         refine done_ (by kernel_rfl) ?_
         try go_wp2
         replace BK301 := aS (blk_drew BK301.out)
         replace HB := aS (below_drew1 HB.out)
         refine start_ (n := 8) (S := fun w' => w'.cell? ⟨gb301, 0, none⟩ = some (.int .i64 a0_0) ∧ w'.cell? ⟨gb301, 1, none⟩ = some (.int .i64 a0_1) ∧ w'.cell? ⟨gb301, 2, none⟩ = some (.int .i64 a0_2) ∧ w'.cell? ⟨gb301, 3, none⟩ = some (.int .u8 a0_3) ∧ w'.cell? ⟨gb301, 4, none⟩ = some (.int .u8 a0_4) ∧ w'.cell? ⟨gb301, 5, none⟩ = some (.int .u8 a0_5) ∧ w'.cell? ⟨gb301, 6, none⟩ = some (.int .u8 a0_6)) (ds := []) (tb 8 0) (by kernel_rfl) rfl rfl (c7 BK301.out) (fun hHeld => ?_); refine with_tabW prolepsisref05_Right.tab7 prolepsisref05_Right.bits7 (fun HT_ HW_ => ?_)
         generalize w35.drew = w36 at BK301 HB hHeld ⊢
         refine tp 0 (some 39) (tb 8 1) ?_
         refine tp 1 (some 40) (tb 8 3) ?_
         refine tp 3 (some 42) (tb 8 11) ?_
         refine tp 4 (some 43) (tb 8 27) ?_
         refine tk 2 (some 41) (tb 8 31) ?_
         refine tp 6 (some 3) (tb 8 95) ?_
         refine tk 5 (some 44) (tb 8 127) ?_
         refine tp 7 (some 4) (tb 8 255) ?_
         refine done_ (done_of HT_.out (by kernel_rfl)) ?_
         try go_wp2_with (first | (go_at_call 105; (with_reducible refine (prolepsisref03_Of.calls kj1 a0_1 t304 _ A26.out).mono ?_); rintro e w37 ⟨rfl, hb⟩; replace BK301 := aS (blk_below (kb BK301) hb); replace HB := aS (below_step bS hb); (try clear hb); (try clear hb2); (try clear hk); (try clear hi)))
         go_ret
         exact ⟨by first | rfl | (simp <;> rfl) | (simp [*] <;> rfl), bS⟩
      ·rw [if_neg c20] at H
       have c20b0 : (a0_1 == 0) = false := beq_eq_false_iff_ne.mpr c20
       have c20b1 : (a0_1 != 0) = true := bne_iff_ne.mpr c20
       replace H := Option.bind_eq_some_iff.mp H
       obtain ⟨t305, A380, H⟩ := H
       try dsimp only at H
       have A38 := aS A380
       clear A380
       by_cases c39 : t305 = 0
       ·rw [if_pos c39] at H
        have c39b0 : (t305 == 0) = true := beq_iff_eq.mpr c39
        have c39b1 : (t305 != 0) = false := bne_eq_false_iff_eq.mpr c39
        clear c39
        by_cases c40 : a0_2 = 0
        ·rw [if_pos c40] at H
         have c40b0 : (a0_2 == 0) = true := beq_iff_eq.mpr c40
         have c40b1 : (a0_2 != 0) = false := bne_eq_false_iff_eq.mpr c40
         clear c40
         obtain rfl := Option.some.inj H
         have hz41 := cel7 BK301.out
         try go_wp2
         replace BK301 := aS (blk_drew BK301.out)
         replace HB := aS (below_drew1 HB.out)
         refine start_ (n := 7) (S := fun w' => w'.cell? ⟨gb301, 0, none⟩ = some (.int .i64 a0_0) ∧ w'.cell? ⟨gb301, 1, none⟩ = some (.int .i64 a0_1) ∧ w'.cell? ⟨gb301, 2, none⟩ = some (.int .i64 a0_2) ∧ w'.cell? ⟨gb301, 3, none⟩ = some (.int .u8 a0_3) ∧ w'.cell? ⟨gb301, 4, none⟩ = some (.int .u8 a0_4) ∧ w'.cell? ⟨gb301, 5, none⟩ = some (.int .u8 a0_5) ∧ w'.cell? ⟨gb301, 6, none⟩ = some (.int .u8 a0_6)) (ds := []) (tb 7 0) (by kernel_rfl) rfl rfl (c7 BK301.out) (fun hHeld => ?_)
         generalize wc.drew = w42 at BK301 HB hHeld ⊢
         refine tP 0 (some 32) (tb 7 1) ?_
         refine tP 3 (some 35) (tb 7 9) ?_
         refine tK 1 (some 33) (tb 7 11) ?_
         refine tK 4 (some 36) (tb 7 27) ?_
         refine tP 5 (some 37) (tb 7 59) ?_
         refine sO 2 (some 34) (tb 7 63) (fun K hK => ?_)
         refine gO Tryz.func105 #[.int .i64 a0_0] ?_
         with_reducible refine (prolepsisref03_Of.calls kj1 a0_0 t303 _ A18.out).mono ?_
         rintro e w43 ⟨rfl, hb⟩
         refine ⟨_, rfl, ?_⟩
         replace BK301 := aS (blk_below (kb BK301) hb)
         replace HB := aS (below_step bS hb)
         (try clear hb)
         (try clear hb2)
         (try clear hk)
         (try clear hi)
         refine hK.out _ _ (c7 BK301.out) (fun hHeld => ?_)
         clear hK K
         refine nm ?_
         refine tP 6 (some 38) (tb 7 127) ?_
         refine done_ (by kernel_rfl) ?_
         try go_wp2
         replace BK301 := aS (blk_drew BK301.out)
         replace HB := aS (below_drew1 HB.out)
         refine start_ (n := 8) (S := fun w' => w'.cell? ⟨gb301, 0, none⟩ = some (.int .i64 a0_0) ∧ w'.cell? ⟨gb301, 1, none⟩ = some (.int .i64 a0_1) ∧ w'.cell? ⟨gb301, 2, none⟩ = some (.int .i64 a0_2) ∧ w'.cell? ⟨gb301, 3, none⟩ = some (.int .u8 a0_3) ∧ w'.cell? ⟨gb301, 4, none⟩ = some (.int .u8 a0_4) ∧ w'.cell? ⟨gb301, 5, none⟩ = some (.int .u8 a0_5) ∧ w'.cell? ⟨gb301, 6, none⟩ = some (.int .u8 a0_6)) (ds := []) (tb 8 0) (by kernel_rfl) rfl rfl (c7 BK301.out) (fun hHeld => ?_); refine with_tabW prolepsisref05_Right.tab7 prolepsisref05_Right.bits7 (fun HT_ HW_ => ?_)
         generalize w43.drew = w44 at BK301 HB hHeld ⊢
         refine tp 0 (some 39) (tb 8 1) ?_
         refine tp 1 (some 40) (tb 8 3) ?_
         refine tp 3 (some 42) (tb 8 11) ?_
         refine tp 4 (some 43) (tb 8 27) ?_
         refine tk 2 (some 41) (tb 8 31) ?_
         refine tp 6 (some 3) (tb 8 95) ?_
         refine tk 5 (some 44) (tb 8 127) ?_
         refine tp 7 (some 4) (tb 8 255) ?_
         refine done_ (done_of HT_.out (by kernel_rfl)) ?_
         try go_wp2_with (first | (go_at_call 105; (with_reducible refine (prolepsisref03_Of.calls kj1 a0_1 t305 _ A38.out).mono ?_); rintro e w45 ⟨rfl, hb⟩; replace BK301 := aS (blk_below (kb BK301) hb); replace HB := aS (below_step bS hb); (try clear hb); (try clear hb2); (try clear hk); (try clear hi)))
         go_ret
         exact ⟨by first | rfl | (simp <;> rfl) | (simp [*] <;> rfl), bS⟩
        ·rw [if_neg c40] at H
         have c40b0 : (a0_2 == 0) = false := beq_eq_false_iff_ne.mpr c40
         have c40b1 : (a0_2 != 0) = true := bne_iff_ne.mpr c40
         replace H := Option.bind_eq_some_iff.mp H
         obtain ⟨t306, A460, H⟩ := H
         try dsimp only at H
         have A46 := aS A460
         clear A460
         obtain rfl := Option.some.inj H
         have hz47 := cel7 BK301.out
         try go_wp2
         replace BK301 := aS (blk_drew BK301.out)
         replace HB := aS (below_drew1 HB.out)
         refine start_ (n := 7) (S := fun w' => w'.cell? ⟨gb301, 0, none⟩ = some (.int .i64 a0_0) ∧ w'.cell? ⟨gb301, 1, none⟩ = some (.int .i64 a0_1) ∧ w'.cell? ⟨gb301, 2, none⟩ = some (.int .i64 a0_2) ∧ w'.cell? ⟨gb301, 3, none⟩ = some (.int .u8 a0_3) ∧ w'.cell? ⟨gb301, 4, none⟩ = some (.int .u8 a0_4) ∧ w'.cell? ⟨gb301, 5, none⟩ = some (.int .u8 a0_5) ∧ w'.cell? ⟨gb301, 6, none⟩ = some (.int .u8 a0_6)) (ds := []) (tb 7 0) (by kernel_rfl) rfl rfl (c7 BK301.out) (fun hHeld => ?_)
         generalize wc.drew = w48 at BK301 HB hHeld ⊢
         refine tP 0 (some 32) (tb 7 1) ?_
         refine tP 3 (some 35) (tb 7 9) ?_
         refine tK 1 (some 33) (tb 7 11) ?_
         refine tK 4 (some 36) (tb 7 27) ?_
         refine tP 5 (some 37) (tb 7 59) ?_
         refine sO 2 (some 34) (tb 7 63) (fun K hK => ?_)
         refine gO Tryz.func105 #[.int .i64 a0_0] ?_
         with_reducible refine (prolepsisref03_Of.calls kj1 a0_0 t303 _ A18.out).mono ?_
         rintro e w49 ⟨rfl, hb⟩
         refine ⟨_, rfl, ?_⟩
         replace BK301 := aS (blk_below (kb BK301) hb)
         replace HB := aS (below_step bS hb)
         (try clear hb)
         (try clear hb2)
         (try clear hk)
         (try clear hi)
         refine hK.out _ _ (c7 BK301.out) (fun hHeld => ?_)
         clear hK K
         refine nm ?_
         refine tP 6 (some 38) (tb 7 127) ?_
         refine done_ (by kernel_rfl) ?_
         try go_wp2
         replace BK301 := aS (blk_drew BK301.out)
         replace HB := aS (below_drew1 HB.out)
         refine start_ (n := 8) (S := fun w' => w'.cell? ⟨gb301, 0, none⟩ = some (.int .i64 a0_0) ∧ w'.cell? ⟨gb301, 1, none⟩ = some (.int .i64 a0_1) ∧ w'.cell? ⟨gb301, 2, none⟩ = some (.int .i64 a0_2) ∧ w'.cell? ⟨gb301, 3, none⟩ = some (.int .u8 a0_3) ∧ w'.cell? ⟨gb301, 4, none⟩ = some (.int .u8 a0_4) ∧ w'.cell? ⟨gb301, 5, none⟩ = some (.int .u8 a0_5) ∧ w'.cell? ⟨gb301, 6, none⟩ = some (.int .u8 a0_6)) (ds := []) (tb 8 0) (by kernel_rfl) rfl rfl (c7 BK301.out) (fun hHeld => ?_); refine with_tabW prolepsisref05_Right.tab7 prolepsisref05_Right.bits7 (fun HT_ HW_ => ?_)
         generalize w49.drew = w50 at BK301 HB hHeld ⊢
         refine tp 0 (some 39) (tb 8 1) ?_
         refine tp 1 (some 40) (tb 8 3) ?_
         refine tp 3 (some 42) (tb 8 11) ?_
         refine tp 4 (some 43) (tb 8 27) ?_
         refine tk 2 (some 41) (tb 8 31) ?_
         refine tp 6 (some 3) (tb 8 95) ?_
         refine tk 5 (some 44) (tb 8 127) ?_
         refine tp 7 (some 4) (tb 8 255) ?_
         refine done_ (done_of HT_.out (by kernel_rfl)) ?_
         try go_wp2_with (first | (go_at_call 105; (with_reducible refine (prolepsisref03_Of.calls kj1 a0_1 t305 _ A38.out).mono ?_); rintro e w51 ⟨rfl, hb⟩; replace BK301 := aS (blk_below (kb BK301) hb); replace HB := aS (below_step bS hb); (try clear hb); (try clear hb2); (try clear hk); (try clear hi)) | (go_at_call 105; (with_reducible refine (prolepsisref03_Of.calls kj1 a0_2 t306 _ A46.out).mono ?_); rintro e w52 ⟨rfl, hb⟩; replace BK301 := aS (blk_below (kb BK301) hb); replace HB := aS (below_step bS hb); (try clear hb); (try clear hb2); (try clear hk); (try clear hi)))
         go_ret
         exact ⟨by first | rfl | (simp <;> rfl) | (simp [*] <;> rfl), bS⟩
       ·rw [if_neg c39] at H
        have c39b0 : (t305 == 0) = false := beq_eq_false_iff_ne.mpr c39
        have c39b1 : (t305 != 0) = true := bne_iff_ne.mpr c39
        obtain rfl := Option.some.inj H
        have hz53 := cel7 BK301.out
        try go_wp2
        replace BK301 := aS (blk_drew BK301.out)
        replace HB := aS (below_drew1 HB.out)
        refine start_ (n := 7) (S := fun w' => w'.cell? ⟨gb301, 0, none⟩ = some (.int .i64 a0_0) ∧ w'.cell? ⟨gb301, 1, none⟩ = some (.int .i64 a0_1) ∧ w'.cell? ⟨gb301, 2, none⟩ = some (.int .i64 a0_2) ∧ w'.cell? ⟨gb301, 3, none⟩ = some (.int .u8 a0_3) ∧ w'.cell? ⟨gb301, 4, none⟩ = some (.int .u8 a0_4) ∧ w'.cell? ⟨gb301, 5, none⟩ = some (.int .u8 a0_5) ∧ w'.cell? ⟨gb301, 6, none⟩ = some (.int .u8 a0_6)) (ds := []) (tb 7 0) (by kernel_rfl) rfl rfl (c7 BK301.out) (fun hHeld => ?_)
        generalize wc.drew = w54 at BK301 HB hHeld ⊢
        refine tP 0 (some 32) (tb 7 1) ?_
        refine tP 3 (some 35) (tb 7 9) ?_
        refine tK 1 (some 33) (tb 7 11) ?_
        refine tK 4 (some 36) (tb 7 27) ?_
        refine tP 5 (some 37) (tb 7 59) ?_
        refine sO 2 (some 34) (tb 7 63) (fun K hK => ?_)
        refine gO Tryz.func105 #[.int .i64 a0_0] ?_
        with_reducible refine (prolepsisref03_Of.calls kj1 a0_0 t303 _ A18.out).mono ?_
        rintro e w55 ⟨rfl, hb⟩
        refine ⟨_, rfl, ?_⟩
        replace BK301 := aS (blk_below (kb BK301) hb)
        replace HB := aS (below_step bS hb)
        (try clear hb)
        (try clear hb2)
        (try clear hk)
        (try clear hi)
        refine hK.out _ _ (c7 BK301.out) (fun hHeld => ?_)
        clear hK K
        refine nm ?_
        refine tP 6 (some 38) (tb 7 127) ?_
        refine done_ (by kernel_rfl) ?_
        try go_wp2
        replace BK301 := aS (blk_drew BK301.out)
        replace HB := aS (below_drew1 HB.out)
        refine start_ (n := 8) (S := fun w' => w'.cell? ⟨gb301, 0, none⟩ = some (.int .i64 a0_0) ∧ w'.cell? ⟨gb301, 1, none⟩ = some (.int .i64 a0_1) ∧ w'.cell? ⟨gb301, 2, none⟩ = some (.int .i64 a0_2) ∧ w'.cell? ⟨gb301, 3, none⟩ = some (.int .u8 a0_3) ∧ w'.cell? ⟨gb301, 4, none⟩ = some (.int .u8 a0_4) ∧ w'.cell? ⟨gb301, 5, none⟩ = some (.int .u8 a0_5) ∧ w'.cell? ⟨gb301, 6, none⟩ = some (.int .u8 a0_6)) (ds := []) (tb 8 0) (by kernel_rfl) rfl rfl (c7 BK301.out) (fun hHeld => ?_); refine with_tabW prolepsisref05_Right.tab7 prolepsisref05_Right.bits7 (fun HT_ HW_ => ?_)
        generalize w55.drew = w56 at BK301 HB hHeld ⊢
        refine tp 0 (some 39) (tb 8 1) ?_
        refine tp 1 (some 40) (tb 8 3) ?_
        refine tp 3 (some 42) (tb 8 11) ?_
        refine tp 4 (some 43) (tb 8 27) ?_
        refine tk 2 (some 41) (tb 8 31) ?_
        refine tp 6 (some 3) (tb 8 95) ?_
        refine tk 5 (some 44) (tb 8 127) ?_
        refine tp 7 (some 4) (tb 8 255) ?_
        refine done_ (done_of HT_.out (by kernel_rfl)) ?_
        try go_wp2_with (first | (go_at_call 105; (with_reducible refine (prolepsisref03_Of.calls kj1 a0_1 t305 _ A38.out).mono ?_); rintro e w57 ⟨rfl, hb⟩; replace BK301 := aS (blk_below (kb BK301) hb); replace HB := aS (below_step bS hb); (try clear hb); (try clear hb2); (try clear hk); (try clear hi)))
        go_ret
        exact ⟨by first | rfl | (simp <;> rfl) | (simp [*] <;> rfl), bS⟩
     ·rw [if_neg c19] at H
      have c19b0 : (t303 == (wrap64 (a0_3))) = false := beq_eq_false_iff_ne.mpr c19
      have c19b1 : (t303 != (wrap64 (a0_3))) = true := bne_iff_ne.mpr c19
      obtain rfl := Option.some.inj H
      have hz58 := cel7 BK301.out
      try go_wp2
      replace BK301 := aS (blk_drew BK301.out)
      replace HB := aS (below_drew1 HB.out)
      refine start_ (n := 7) (S := fun w' => w'.cell? ⟨gb301, 0, none⟩ = some (.int .i64 a0_0) ∧ w'.cell? ⟨gb301, 1, none⟩ = some (.int .i64 a0_1) ∧ w'.cell? ⟨gb301, 2, none⟩ = some (.int .i64 a0_2) ∧ w'.cell? ⟨gb301, 3, none⟩ = some (.int .u8 a0_3) ∧ w'.cell? ⟨gb301, 4, none⟩ = some (.int .u8 a0_4) ∧ w'.cell? ⟨gb301, 5, none⟩ = some (.int .u8 a0_5) ∧ w'.cell? ⟨gb301, 6, none⟩ = some (.int .u8 a0_6)) (ds := []) (tb 7 0) (by kernel_rfl) rfl rfl (c7 BK301.out) (fun hHeld => ?_)
      generalize wc.drew = w59 at BK301 HB hHeld ⊢
      refine tP 0 (some 32) (tb 7 1) ?_
      refine tP 3 (some 35) (tb 7 9) ?_
      refine tK 1 (some 33) (tb 7 11) ?_
      refine tK 4 (some 36) (tb 7 27) ?_
      refine tP 5 (some 37) (tb 7 59) ?_
      refine sO 2 (some 34) (tb 7 63) (fun K hK => ?_)
      refine gO Tryz.func105 #[.int .i64 a0_0] ?_
      with_reducible refine (prolepsisref03_Of.calls kj1 a0_0 t303 _ A18.out).mono ?_
      rintro e w60 ⟨rfl, hb⟩
      refine ⟨_, rfl, ?_⟩
      replace BK301 := aS (blk_below (kb BK301) hb)
      replace HB := aS (below_step bS hb)
      (try clear hb)
      (try clear hb2)
      (try clear hk)
      (try clear hi)
      refine hK.out _ _ (c7 BK301.out) (fun hHeld => ?_)
      clear hK K
      refine nm ?_
      refine tP 6 (some 38) (tb 7 127) ?_
      refine done_ (by kernel_rfl) ?_
      try go_wp2
      go_ret
      exact ⟨by first | rfl | (simp <;> rfl) | (simp [*] <;> rfl), bS⟩
end Go.Proofs.YtblcmcdifgclcaaGreat.PGridPlays
