/- GridPlays: what its proof leads to. No condition. -/
import Derived.Test.YtblcmcdifgclcaaGreatG13qGridPlays
import Derived.Test.YtblcmcdifgclcaaGreatG17qGridPlays
import Derived.Test.YtblcmcdifgclcaaGreatG20qGridPlays
import Derived.Test.YtblcmcdifgclcaaGreatG21qGridPlays
import Derived.Test.YtblcmcdifgclcaaGreatG6qGridPlays
namespace Go.Proofs.YtblcmcdifgclcaaGreat.PGridPlays
open Go.RowKit Go.Proofs.YtblcmcdifgclcaaGreatW.PrintWords Go.Proofs.YtblcmcdifgclcaaGreatW.PrintLast Go.Proofs.YtblcmcdifgclcaaGreatW.PrintMore
attribute [local go_sem] isSome_setCell max2_int min2_int max_two min_two
set_option linter.unusedVariables false
set_option linter.unusedSimpArgs false
mutual
def prolepsisref07_Same.j0 : Nat → Bool → List (List (S52)) → Int → Int → List (List (S52)) → Int → Int → Option (Bool)
 | 0, _, _, _, _, _, _, _ => none
 | k + 1, x26, x428000, x428001, x428002, x429000, x429001, x429002 => if x26 = true then (some false) else (prolepsisref07_Same.l0 k 0 x428000 x428001 x428002 x429000 x429001 x429002)
def prolepsisref07_Same.l0 : Nat → Int → List (List (S52)) → Int → Int → List (List (S52)) → Int → Int → Option (Bool)
 | 0, _, _, _, _, _, _, _ => none
 | k + 1, x5, x428000, x428001, x428002, x429000, x429001, x429002 => if x5 < (x428000.length : Int) then (if 0 ≤ x5 then (if x5 < (x429000.length : Int) then ((prolepsisref06_Same.f k (rd_L9 x428000 x5) (rd_L9 x429000 x5)).bind fun t431 => (if t431 = true then (prolepsisref07_Same.l0 k (wrap64 (x5 + 1)) x428000 x428001 x428002 x429000 x429001 x429002) else (some false))) else (none)) else (none)) else (some true)
end
def prolepsisref07_Same.f (k : Nat) (l0_0 : List (List (S52))) (a0_1 : Int) (a0_2 : Int) (l1_0 : List (List (S52))) (a1_1 : Int) (a1_2 : Int) : Option (Bool) := if (l0_0.length : Int) = (l1_0.length : Int) then (if a0_1 = a1_1 then (prolepsisref07_Same.j0 k (a0_2 != a1_2) l0_0 a0_1 a0_2 l1_0 a1_1 a1_2) else (prolepsisref07_Same.j0 k true l0_0 a0_1 a0_2 l1_0 a1_1 a1_2)) else (prolepsisref07_Same.j0 k true l0_0 a0_1 a0_2 l1_0 a1_1 a1_2)
set_option maxHeartbeats 8000000 in
set_option maxRecDepth 100000 in
theorem prolepsisref07_Same.calls (k : Nat) (A0_0 : Option Addr) (c0_0 : Nat) (l0_0 : List (List (S52))) (a0_1 : Int) (a0_2 : Int) (A1_0 : Option Addr) (c1_0 : Nat) (l1_0 : List (List (S52))) (a1_1 : Int) (a1_2 : Int) (r : Bool) (w : World) (hr0_0 : Kd.C (Kd.slice 52 k52) w A0_0 l0_0.length l0_0) (hc0_0 : l0_0.length ≤ c0_0) (hr1_0 : Kd.C (Kd.slice 52 k52) w A1_0 l1_0.length l1_0) (hc1_0 : l1_0.length ≤ c1_0) (h : prolepsisref07_Same.f k l0_0 a0_1 a0_2 l1_0 a1_1 a1_2 = some r) :
 Calls Tryz.prog 45 #[.agg #[.slice A0_0 l0_0.length c0_0, .int .i64 a0_1, .int .i64 a0_2], .agg #[.slice A1_0 l1_0.length c1_0, .int .i64 a1_1, .int .i64 a1_2]] w fun e w' => e = .returned (.bool r) ∧ Below w.heap.size w w' := by
 have hu32 := Tryz.underlying32
 have HR0_0 := aS hr0_0
 have HC0_0 := aS hc0_0
 clear hr0_0 hc0_0
 have HR1_0 := aS hr1_0
 have HC1_0 := aS hc1_0
 clear hr1_0 hc1_0
 have HB := aS (Below.refl w.heap.size w)
 have H : (if (l0_0.length : Int) = (l1_0.length : Int) then (if a0_1 = a1_1 then (prolepsisref07_Same.j0 k (a0_2 != a1_2) l0_0 a0_1 a0_2 l1_0 a1_1 a1_2) else (prolepsisref07_Same.j0 k true l0_0 a0_1 a0_2 l1_0 a1_1 a1_2)) else (prolepsisref07_Same.j0 k true l0_0 a0_1 a0_2 l1_0 a1_1 a1_2)) = some r := h
 clear h
 have HC3 := aS H
 clear H
 go_enter Tryz.func45, Tryz.ntmps45
 go_upto_region 1 with (first | (refine bx 2 #[.slice A0_0 l0_0.length c0_0, .int .i64 a0_1, .int .i64 a0_2] 32 ?_; intro gb427 hg w4 hbox hb; have BK427 := aS (hbox); have GW427 := aS (gw HB hg); have GE427 := aS (gw HB hg); replace HB := aS (below_step bB hb); clear hb hbox hg) | (refine bx 3 #[.slice A1_0 l1_0.length c1_0, .int .i64 a1_1, .int .i64 a1_2] 32 ?_; intro gb428 hg w5 hbox hb; have BK428 := aS (hbox); have GW428 := aS (gw HB hg); have GE428 := aS (gw HB hg); replace HB := aS (below_step bS hb); have NB427_428 := aS ((by rw [hg]; exact Nat.ne_of_lt (blk_lt (kb BK427)) : gb427 ≠ gb428)); have NB428_427 := aS ((by rw [hg]; exact Nat.ne_of_gt (blk_lt (kb BK427)) : gb428 ≠ gb427)); replace BK427 := aS (blk_below (kb BK427) hb); clear hb hbox hg))
 repeat (go_quiet (first | (refine bx 2 #[.slice A0_0 l0_0.length c0_0, .int .i64 a0_1, .int .i64 a0_2] 32 ?_; intro gb427 hg w4 hbox hb; have BK427 := aS (hbox); have GW427 := aS (gw HB hg); have GE427 := aS (gw HB hg); replace HB := aS (below_step bB hb); clear hb hbox hg) | (refine bx 3 #[.slice A1_0 l1_0.length c1_0, .int .i64 a1_1, .int .i64 a1_2] 32 ?_; intro gb428 hg w5 hbox hb; have BK428 := aS (hbox); have GW428 := aS (gw HB hg); have GE428 := aS (gw HB hg); replace HB := aS (below_step bS hb); have NB427_428 := aS ((by rw [hg]; exact Nat.ne_of_lt (blk_lt (kb BK427)) : gb427 ≠ gb428)); have NB428_427 := aS ((by rw [hg]; exact Nat.ne_of_gt (blk_lt (kb BK427)) : gb428 ≠ gb427)); replace BK427 := aS (blk_below (kb BK427) hb); clear hb hbox hg)); go_upto_region 1 with (first | (refine bx 2 #[.slice A0_0 l0_0.length c0_0, .int .i64 a0_1, .int .i64 a0_2] 32 ?_; intro gb427 hg w4 hbox hb; have BK427 := aS (hbox); have GW427 := aS (gw HB hg); have GE427 := aS (gw HB hg); replace HB := aS (below_step bB hb); clear hb hbox hg) | (refine bx 3 #[.slice A1_0 l1_0.length c1_0, .int .i64 a1_1, .int .i64 a1_2] 32 ?_; intro gb428 hg w5 hbox hb; have BK428 := aS (hbox); have GW428 := aS (gw HB hg); have GE428 := aS (gw HB hg); replace HB := aS (below_step bS hb); have NB427_428 := aS ((by rw [hg]; exact Nat.ne_of_lt (blk_lt (kb BK427)) : gb427 ≠ gb428)); have NB428_427 := aS ((by rw [hg]; exact Nat.ne_of_gt (blk_lt (kb BK427)) : gb428 ≠ gb427)); replace BK427 := aS (blk_below (kb BK427) hb); clear hb hbox hg)))
 (try simp only [Act.put, List.setIfInBounds_toArray, List.set_cons_zero, List.set_cons_succ])
 go_cut [26] (fun v26 wc => ∃ (kq : Nat) (x26_2 : Bool), v26 = .bool x26_2 ∧ Aside0 (prolepsisref07_Same.j0 kq x26_2 l0_0 a0_1 a0_2 l1_0 a1_1 a1_2 = some r) ∧ Aside0 (kq ≤ k) ∧ Aside0 (wc.heap[gb427]? = some (.cells #[(.slice A0_0 l0_0.length c0_0), .int .i64 a0_1, .int .i64 a0_2] 32 (0, 0))) ∧ Aside0 (wc.heap[gb428]? = some (.cells #[(.slice A1_0 l1_0.length c1_0), .int .i64 a1_1, .int .i64 a1_2] 32 (0, 0))) ∧ Aside0 (Below w.heap.size w wc))
 case first =>
  have H := HC3.out
  clear HC3
  by_cases c6 : (l0_0.length : Int) = (l1_0.length : Int)
  ·rw [if_pos c6] at H
   have c6b0 : ((l0_0.length : Int) == (l1_0.length : Int)) = true := beq_iff_eq.mpr c6
   have c6b1 : ((l0_0.length : Int) != (l1_0.length : Int)) = false := bne_eq_false_iff_eq.mpr c6
   have c6b2 : (l0_0.length == l1_0.length) = true := by first | simpa using c6 | (simp at c6 ⊢; omega)
   clear c6
   (first | rw [c6b0] | (simp only [i64_w, i32_w]; rw [c6b0]) | skip)
   by_cases c7 : a0_1 = a1_1
   ·rw [if_pos c7] at H
    have c7b0 : (a0_1 == a1_1) = true := beq_iff_eq.mpr c7
    have c7b1 : (a0_1 != a1_1) = false := bne_eq_false_iff_eq.mpr c7
    clear c7
    have H' := aS H
    clear H
    have hnb8 := NB427_428.out
    have hnc8 := NB428_427.out
    have hz9 := cel3 BK427.out
    have hz10 := cel3 BK428.out
    go_wp2
    repeat (go_quiet (fail); try go_wp2)
    go_meet
    case rel => exact ⟨_, ((a0_2 != a1_2)), fS, H', ⟨by first | omega | exact Nat.le_refl _⟩, ⟨kb BK427⟩, ⟨kb BK428⟩, ⟨bS⟩⟩
   ·rw [if_neg c7] at H
    have c7b0 : (a0_1 == a1_1) = false := beq_eq_false_iff_ne.mpr c7
    have c7b1 : (a0_1 != a1_1) = true := bne_iff_ne.mpr c7
    have H' := aS H
    clear H
    have hnb11 := NB427_428.out
    have hnc11 := NB428_427.out
    have hz12 := cel3 BK427.out
    have hz13 := cel3 BK428.out
    go_wp2
    repeat (go_quiet (fail); try go_wp2)
    go_meet
    case rel => exact ⟨_, (true), fS, H', ⟨by first | omega | exact Nat.le_refl _⟩, ⟨kb BK427⟩, ⟨kb BK428⟩, ⟨bS⟩⟩
  ·rw [if_neg c6] at H
   have c6b0 : ((l0_0.length : Int) == (l1_0.length : Int)) = false := beq_eq_false_iff_ne.mpr c6
   have c6b1 : ((l0_0.length : Int) != (l1_0.length : Int)) = true := bne_iff_ne.mpr c6
   have c6b2 : (l0_0.length == l1_0.length) = false := by first | simpa using c6 | (simp at c6 ⊢; omega)
   (first | rw [c6b0] | (simp only [i64_w, i32_w]; rw [c6b0]) | skip)
   have H' := aS H
   clear H
   have hnb14 := NB427_428.out
   have hnc14 := NB428_427.out
   have hz15 := cel3 BK427.out
   have hz16 := cel3 BK428.out
   go_wp2
   repeat (go_quiet (fail); try go_wp2)
   go_meet
   case rel => exact ⟨_, (true), fS, H', ⟨by first | omega | exact Nat.le_refl _⟩, ⟨kb BK427⟩, ⟨kb BK428⟩, ⟨bS⟩⟩
 case rest =>
  clear HC3
  try clear c1
  try clear p2
  try clear c4
  try clear c6
  try clear c6b0
  try clear c6b1
  try clear c6b2
  try clear c7
  try clear c7b0
  try clear c7b1
  try clear c8
  try clear c11
  try clear c14
  try clear hz10
  try clear hz12
  try clear hz13
  try clear hz15
  try clear hz16
  try clear hz9
  obtain ⟨kq, x26_2, rfl, HA, HJ2, BK427, BK428, HB⟩ := hcut
  cases kq with
  | zero => exact absurd HA.out (by simp [prolepsisref07_Same.j0])
  | succ kj2 =>
   have H := HA.out
   clear HA
   simp only [prolepsisref07_Same.j0] at H
   by_cases c17 : x26_2 = true
   ·subst c17
    have H1 : (some false) = some r := by rw [if_pos rfl] at H; exact H
    clear H
    have H := H1
    clear H1
    obtain rfl := Option.some.inj H
    go_wp2
    repeat (go_quiet (fail); try go_wp2)
    go_ret
    exact ⟨by first | rfl | (simp <;> rfl) | (simp [*] <;> rfl), bS⟩
   ·replace c17 := Bool.eq_false_iff.mpr c17
    subst c17
    have H1 : (prolepsisref07_Same.l0 kj2 0 l0_0 a0_1 a0_2 l1_0 a1_1 a1_2) = some r := by rw [if_neg (show ¬ (false = true) by decide)] at H; exact H
    clear H
    have H := H1
    clear H1
    have H' := aS H
    clear H
    go_wp2
    repeat (go_quiet (fail); try go_wp2)
    go_loopg [5] kj2 (fun kq v5 w' => ∃ (x5_2 : Int), v5 = .int .i64 x5_2 ∧ Aside0 (prolepsisref07_Same.l0 kq x5_2 l0_0 a0_1 a0_2 l1_0 a1_1 a1_2 = some r) ∧ Aside0 (kq ≤ kj2) ∧ Aside0 (w'.heap[gb427]? = some (.cells #[(.slice A0_0 l0_0.length c0_0), .int .i64 a0_1, .int .i64 a0_2] 32 (0, 0))) ∧ Aside0 (w'.heap[gb428]? = some (.cells #[(.slice A1_0 l1_0.length c1_0), .int .i64 a1_1, .int .i64 a1_2] 32 (0, 0))) ∧ Aside0 (Below w.heap.size w w'))
    case atStart => exact ⟨(0), fS, H', ⟨Nat.le_refl _⟩, ⟨kb BK427⟩, ⟨kb BK428⟩, ⟨bS⟩⟩
    case round =>
     clear H'
     try clear c1
     try clear p2
     try clear c4
     try clear c6
     try clear c6b0
     try clear c6b1
     try clear c6b2
     try clear c7
     try clear c7b0
     try clear c7b1
     try clear c8
     try clear c11
     try clear c14
     try clear c17
     try clear hz10
     try clear hz12
     try clear hz13
     try clear hz15
     try clear hz16
     try clear hz9
     try clear p2
     obtain ⟨x5_2, rfl, HA, HK2, BK427, BK428, HB⟩ := hrel
     cases gk with
     | zero => exact absurd HA.out (by simp [prolepsisref07_Same.l0])
     | succ k2 =>
      have H := HA.out
      clear HA
      simp only [prolepsisref07_Same.l0] at H
      by_cases c18 : x5_2 < (l0_0.length : Int)
      ·rw [if_pos c18] at H
       have c18b0 : decide (x5_2 < (l0_0.length : Int)) = true := decide_eq_true c18
       clear c18
       obtain ⟨c19, H⟩ := ifS H
       have c19b0 : decide (0 ≤ x5_2) = true := decide_eq_true c19
       clear c19
       obtain ⟨c20, H⟩ := ifS H
       have c20b0 : decide (x5_2 < (l1_0.length : Int)) = true := decide_eq_true c20
       clear c20
       replace H := Option.bind_eq_some_iff.mp H
       obtain ⟨t431, A210, H⟩ := H
       try dsimp only at H
       have A21 := aS A210
       clear A210
       by_cases c22 : t431 = true
       ·subst c22
        have H1 : (prolepsisref07_Same.l0 k2 (wrap64 (x5_2 + 1)) l0_0 a0_1 a0_2 l1_0 a1_1 a1_2) = some r := by rw [if_pos rfl] at H; exact H
        clear H
        have H := H1
        clear H1
        have H' := aS H
        clear H
        have hnb23 := NB427_428.out
        have hnc23 := NB428_427.out
        have hz24 := cel3 BK427.out
        have p429 : 0 ≤ (x5_2 : Int) := dA
        have q429 : x5_2 < (l0_0.length : Int) := dA
        obtain ⟨ad429, A429_0, c429_0, e429, hx429_0, hl429_0, hi429_0⟩ := at_L9 HR0_0.out x5_2 p429 q429
        cases e429
        replace hx429_0 := xc HB hx429_0
        have HR429_0 := aS hi429_0
        have HC429_0 := aS hl429_0
        clear hi429_0 hl429_0
        replace p429 := eq_true p429
        replace q429 := eq_true q429
        have hz25 := cel3 BK428.out
        have p430 : 0 ≤ (x5_2 : Int) := dA
        have q430 : x5_2 < (l1_0.length : Int) := dA
        obtain ⟨ad430, A430_0, c430_0, e430, hx430_0, hl430_0, hi430_0⟩ := at_L9 HR1_0.out x5_2 p430 q430
        cases e430
        replace hx430_0 := xc HB hx430_0
        have HR430_0 := aS hi430_0
        have HC430_0 := aS hl430_0
        clear hi430_0 hl430_0
        replace p430 := eq_true p430
        replace q430 := eq_true q430
        go_wp2_with (first | (go_at_call 78; (with_reducible refine (prolepsisref06_Same.calls k2 _ _ (rd_L9 l0_0 x5_2) _ _ (rd_L9 l1_0 x5_2) true _ ?side1 ?side2 ?side3 ?side4 A21.out).mono ?_); (case side1 => repeat (first | exact (Kd.C_below HR429_0.out HB.out) | (with_reducible refine Kd.C_alloc ?_ _) | (with_reducible refine Kd.C_drewN ?_ _) | (with_reducible refine Kd.C_drew ?_))); (case side2 => exact HC429_0.out); (case side3 => repeat (first | exact (Kd.C_below HR430_0.out HB.out) | (with_reducible refine Kd.C_alloc ?_ _) | (with_reducible refine Kd.C_drewN ?_ _) | (with_reducible refine Kd.C_drew ?_))); (case side4 => exact HC430_0.out); rintro e w' ⟨rfl, ⟨nd, rfl⟩⟩; (try first | exact ⟨rfl, _, World.drewN_drewN _ _ _⟩ | exact ⟨rfl, _, Eq.trans (World.drewN_drewN _ _ _) (congrArg (World.drewN _) (Nat.add_assoc _ _ _))⟩)))
        repeat (go_quiet (first | (go_at_call 78; (with_reducible refine (prolepsisref06_Same.calls k2 _ _ (rd_L9 l0_0 x5_2) _ _ (rd_L9 l1_0 x5_2) true _ ?side1 ?side2 ?side3 ?side4 A21.out).mono ?_); (case side1 => repeat (first | exact (Kd.C_below HR429_0.out HB.out) | (with_reducible refine Kd.C_alloc ?_ _) | (with_reducible refine Kd.C_drewN ?_ _) | (with_reducible refine Kd.C_drew ?_))); (case side2 => exact HC429_0.out); (case side3 => repeat (first | exact (Kd.C_below HR430_0.out HB.out) | (with_reducible refine Kd.C_alloc ?_ _) | (with_reducible refine Kd.C_drewN ?_ _) | (with_reducible refine Kd.C_drew ?_))); (case side4 => exact HC430_0.out); rintro e w' ⟨rfl, ⟨nd, rfl⟩⟩; (try first | exact ⟨rfl, _, World.drewN_drewN _ _ _⟩ | exact ⟨rfl, _, Eq.trans (World.drewN_drewN _ _ _) (congrArg (World.drewN _) (Nat.add_assoc _ _ _))⟩))); try go_wp2_with (first | (go_at_call 78; (with_reducible refine (prolepsisref06_Same.calls k2 _ _ (rd_L9 l0_0 x5_2) _ _ (rd_L9 l1_0 x5_2) true _ ?side1 ?side2 ?side3 ?side4 A21.out).mono ?_); (case side1 => repeat (first | exact (Kd.C_below HR429_0.out HB.out) | (with_reducible refine Kd.C_alloc ?_ _) | (with_reducible refine Kd.C_drewN ?_ _) | (with_reducible refine Kd.C_drew ?_))); (case side2 => exact HC429_0.out); (case side3 => repeat (first | exact (Kd.C_below HR430_0.out HB.out) | (with_reducible refine Kd.C_alloc ?_ _) | (with_reducible refine Kd.C_drewN ?_ _) | (with_reducible refine Kd.C_drew ?_))); (case side4 => exact HC430_0.out); rintro e w' ⟨rfl, ⟨nd, rfl⟩⟩; (try first | exact ⟨rfl, _, World.drewN_drewN _ _ _⟩ | exact ⟨rfl, _, Eq.trans (World.drewN_drewN _ _ _) (congrArg (World.drewN _) (Nat.add_assoc _ _ _))⟩))))
        go_roundg k2
        case measure => have := HJ2.out; have := HK2.out; omega
        case rel => exact ⟨(wrap64 (x5_2 + 1)), fS, H', ⟨by have := HJ2.out; have := HK2.out; omega⟩, ⟨kb BK427⟩, ⟨kb BK428⟩, ⟨bS⟩⟩
       ·replace c22 := Bool.eq_false_iff.mpr c22
        subst c22
        have H1 : (some false) = some r := by rw [if_neg (show ¬ (false = true) by decide)] at H; exact H
        clear H
        have H := H1
        clear H1
        obtain rfl := Option.some.inj H
        have hnb26 := NB427_428.out
        have hnc26 := NB428_427.out
        have hz27 := cel3 BK427.out
        have p429 : 0 ≤ (x5_2 : Int) := dA
        have q429 : x5_2 < (l0_0.length : Int) := dA
        obtain ⟨ad429, A429_0, c429_0, e429, hx429_0, hl429_0, hi429_0⟩ := at_L9 HR0_0.out x5_2 p429 q429
        cases e429
        replace hx429_0 := xc HB hx429_0
        have HR429_0 := aS hi429_0
        have HC429_0 := aS hl429_0
        clear hi429_0 hl429_0
        replace p429 := eq_true p429
        replace q429 := eq_true q429
        have hz28 := cel3 BK428.out
        have p430 : 0 ≤ (x5_2 : Int) := dA
        have q430 : x5_2 < (l1_0.length : Int) := dA
        obtain ⟨ad430, A430_0, c430_0, e430, hx430_0, hl430_0, hi430_0⟩ := at_L9 HR1_0.out x5_2 p430 q430
        cases e430
        replace hx430_0 := xc HB hx430_0
        have HR430_0 := aS hi430_0
        have HC430_0 := aS hl430_0
        clear hi430_0 hl430_0
        replace p430 := eq_true p430
        replace q430 := eq_true q430
        go_wp2_with (first | (go_at_call 78; (with_reducible refine (prolepsisref06_Same.calls k2 _ _ (rd_L9 l0_0 x5_2) _ _ (rd_L9 l1_0 x5_2) false _ ?side1 ?side2 ?side3 ?side4 A21.out).mono ?_); (case side1 => repeat (first | exact (Kd.C_below HR429_0.out HB.out) | (with_reducible refine Kd.C_alloc ?_ _) | (with_reducible refine Kd.C_drewN ?_ _) | (with_reducible refine Kd.C_drew ?_))); (case side2 => exact HC429_0.out); (case side3 => repeat (first | exact (Kd.C_below HR430_0.out HB.out) | (with_reducible refine Kd.C_alloc ?_ _) | (with_reducible refine Kd.C_drewN ?_ _) | (with_reducible refine Kd.C_drew ?_))); (case side4 => exact HC430_0.out); rintro e w' ⟨rfl, ⟨nd, rfl⟩⟩; (try first | exact ⟨rfl, _, World.drewN_drewN _ _ _⟩ | exact ⟨rfl, _, Eq.trans (World.drewN_drewN _ _ _) (congrArg (World.drewN _) (Nat.add_assoc _ _ _))⟩)))
        repeat (go_quiet (first | (go_at_call 78; (with_reducible refine (prolepsisref06_Same.calls k2 _ _ (rd_L9 l0_0 x5_2) _ _ (rd_L9 l1_0 x5_2) false _ ?side1 ?side2 ?side3 ?side4 A21.out).mono ?_); (case side1 => repeat (first | exact (Kd.C_below HR429_0.out HB.out) | (with_reducible refine Kd.C_alloc ?_ _) | (with_reducible refine Kd.C_drewN ?_ _) | (with_reducible refine Kd.C_drew ?_))); (case side2 => exact HC429_0.out); (case side3 => repeat (first | exact (Kd.C_below HR430_0.out HB.out) | (with_reducible refine Kd.C_alloc ?_ _) | (with_reducible refine Kd.C_drewN ?_ _) | (with_reducible refine Kd.C_drew ?_))); (case side4 => exact HC430_0.out); rintro e w' ⟨rfl, ⟨nd, rfl⟩⟩; (try first | exact ⟨rfl, _, World.drewN_drewN _ _ _⟩ | exact ⟨rfl, _, Eq.trans (World.drewN_drewN _ _ _) (congrArg (World.drewN _) (Nat.add_assoc _ _ _))⟩))); try go_wp2_with (first | (go_at_call 78; (with_reducible refine (prolepsisref06_Same.calls k2 _ _ (rd_L9 l0_0 x5_2) _ _ (rd_L9 l1_0 x5_2) false _ ?side1 ?side2 ?side3 ?side4 A21.out).mono ?_); (case side1 => repeat (first | exact (Kd.C_below HR429_0.out HB.out) | (with_reducible refine Kd.C_alloc ?_ _) | (with_reducible refine Kd.C_drewN ?_ _) | (with_reducible refine Kd.C_drew ?_))); (case side2 => exact HC429_0.out); (case side3 => repeat (first | exact (Kd.C_below HR430_0.out HB.out) | (with_reducible refine Kd.C_alloc ?_ _) | (with_reducible refine Kd.C_drewN ?_ _) | (with_reducible refine Kd.C_drew ?_))); (case side4 => exact HC430_0.out); rintro e w' ⟨rfl, ⟨nd, rfl⟩⟩; (try first | exact ⟨rfl, _, World.drewN_drewN _ _ _⟩ | exact ⟨rfl, _, Eq.trans (World.drewN_drewN _ _ _) (congrArg (World.drewN _) (Nat.add_assoc _ _ _))⟩))))
        go_ret
        exact ⟨by first | rfl | (simp <;> rfl) | (simp [*] <;> rfl), bS⟩
      ·rw [if_neg c18] at H
       have c18b0 : decide (x5_2 < (l0_0.length : Int)) = false := decide_eq_false c18
       clear c18
       obtain rfl := Option.some.inj H
       have hnb29 := NB427_428.out
       have hnc29 := NB428_427.out
       have hz30 := cel3 BK427.out
       go_wp2
       repeat (go_quiet (fail); try go_wp2)
       go_ret
       exact ⟨by first | rfl | (simp <;> rfl) | (simp [*] <;> rfl), bS⟩
def prolepsisref07_Right.l0 : Nat → Int → List (List (S52)) → Int → Int → Option (Bool)
 | 0, _, _, _, _ => none
 | k + 1, x3, x436000, x436001, x436002 => if x3 < (x436000.length : Int) then (if 0 ≤ x3 then ((prolepsisref06_Right.f k (rd_L9 x436000 x3)).bind fun t437 => (if t437 = true then (prolepsisref07_Right.l0 k (wrap64 (x3 + 1)) x436000 x436001 x436002) else (some false))) else (none)) else (some (decide ((x436000.length : Int) > 0)))
def prolepsisref07_Right.f (k : Nat) (l0_0 : List (List (S52))) (a0_1 : Int) (a0_2 : Int) : Option (Bool) := prolepsisref07_Right.l0 k 0 l0_0 a0_1 a0_2
set_option maxHeartbeats 8000000 in
set_option maxRecDepth 100000 in
theorem prolepsisref07_Right.calls (k : Nat) (A0_0 : Option Addr) (c0_0 : Nat) (l0_0 : List (List (S52))) (a0_1 : Int) (a0_2 : Int) (r : Bool) (w : World) (hr0_0 : Kd.C (Kd.slice 52 k52) w A0_0 l0_0.length l0_0) (hc0_0 : l0_0.length ≤ c0_0) (h : prolepsisref07_Right.f k l0_0 a0_1 a0_2 = some r) :
 Calls Tryz.prog 12 #[.agg #[.slice A0_0 l0_0.length c0_0, .int .i64 a0_1, .int .i64 a0_2]] w fun e w' => e = .returned (.bool r) ∧ Below w.heap.size w w' := by
 have hu32 := Tryz.underlying32
 have HR0_0 := aS hr0_0
 have HC0_0 := aS hc0_0
 clear hr0_0 hc0_0
 have HB := aS (Below.refl w.heap.size w)
 have H : (prolepsisref07_Right.l0 k 0 l0_0 a0_1 a0_2) = some r := h
 clear h
 have H' := aS H
 clear H
 go_enter Tryz.func12, Tryz.ntmps12
 go_wp2_with (first | (refine bx 1 #[.slice A0_0 l0_0.length c0_0, .int .i64 a0_1, .int .i64 a0_2] 32 ?_; intro gb435 hg w2 hbox hb; have BK435 := aS (hbox); have GW435 := aS (gw HB hg); have GE435 := aS (gw HB hg); replace HB := aS (below_step bB hb); clear hb hbox hg))
 go_loopg [3] k (fun kq v3 w' => ∃ (x3_1 : Int), v3 = .int .i64 x3_1 ∧ Aside0 (prolepsisref07_Right.l0 kq x3_1 l0_0 a0_1 a0_2 = some r) ∧ Aside0 (kq ≤ k) ∧ Aside0 (w'.heap[gb435]? = some (.cells #[(.slice A0_0 l0_0.length c0_0), .int .i64 a0_1, .int .i64 a0_2] 32 (0, 0))) ∧ Aside0 (Below w.heap.size w w'))
 case atStart => exact ⟨(0), fS, H', ⟨Nat.le_refl _⟩, ⟨kb BK435⟩, ⟨bS⟩⟩
 case round =>
  clear H'
  try clear c1
  try clear p2
  obtain ⟨x3_1, rfl, HA, HK1, BK435, HB⟩ := hrel
  cases gk with
  | zero => exact absurd HA.out (by simp [prolepsisref07_Right.l0])
  | succ k1 =>
   have H := HA.out
   clear HA
   simp only [prolepsisref07_Right.l0] at H
   by_cases c3 : x3_1 < (l0_0.length : Int)
   ·rw [if_pos c3] at H
    have c3b0 : decide (x3_1 < (l0_0.length : Int)) = true := decide_eq_true c3
    clear c3
    obtain ⟨c4, H⟩ := ifS H
    have c4b0 : decide (0 ≤ x3_1) = true := decide_eq_true c4
    clear c4
    replace H := Option.bind_eq_some_iff.mp H
    obtain ⟨t437, A50, H⟩ := H
    try dsimp only at H
    have A5 := aS A50
    clear A50
    by_cases c6 : t437 = true
    ·subst c6
     have H1 : (prolepsisref07_Right.l0 k1 (wrap64 (x3_1 + 1)) l0_0 a0_1 a0_2) = some r := by rw [if_pos rfl] at H; exact H
     clear H
     have H := H1
     clear H1
     have H' := aS H
     clear H
     have hz7 := cel3 BK435.out
     have p436 : 0 ≤ (x3_1 : Int) := dA
     have q436 : x3_1 < (l0_0.length : Int) := dA
     obtain ⟨ad436, A436_0, c436_0, e436, hx436_0, hl436_0, hi436_0⟩ := at_L9 HR0_0.out x3_1 p436 q436
     cases e436
     replace hx436_0 := xc HB hx436_0
     have HR436_0 := aS hi436_0
     have HC436_0 := aS hl436_0
     clear hi436_0 hl436_0
     replace p436 := eq_true p436
     replace q436 := eq_true q436
     go_wp2_with (first | (refine gL 50 16 Tryz.func50 #[.slice A436_0 (rd_L9 l0_0 x3_1).length c436_0] ?_; (with_reducible refine (prolepsisref06_Right.calls k1 _ _ (rd_L9 l0_0 x3_1) true _ ?side1 ?side2 A5.out).mono ?_); (case side1 => repeat (first | exact (Kd.C_below HR436_0.out HB.out) | (with_reducible refine Kd.C_alloc ?_ _) | (with_reducible refine Kd.C_drewN ?_ _) | (with_reducible refine Kd.C_drew ?_))); (case side2 => exact HC436_0.out); rintro e w8 ⟨rfl, hb⟩; refine ⟨_, rfl, ?_⟩; replace BK435 := aS (blk_below (kb BK435) hb); replace HB := aS (below_step bS hb); (try clear hb); (try clear hb2); (try clear hk); (try clear hi)))
     go_roundg k1
     case measure => have := HK1.out; omega
     case rel => exact ⟨(wrap64 (x3_1 + 1)), fS, H', ⟨by have := HK1.out; omega⟩, ⟨kb BK435⟩, ⟨bS⟩⟩
    ·replace c6 := Bool.eq_false_iff.mpr c6
     subst c6
     have H1 : (some false) = some r := by rw [if_neg (show ¬ (false = true) by decide)] at H; exact H
     clear H
     have H := H1
     clear H1
     obtain rfl := Option.some.inj H
     have hz9 := cel3 BK435.out
     have p436 : 0 ≤ (x3_1 : Int) := dA
     have q436 : x3_1 < (l0_0.length : Int) := dA
     obtain ⟨ad436, A436_0, c436_0, e436, hx436_0, hl436_0, hi436_0⟩ := at_L9 HR0_0.out x3_1 p436 q436
     cases e436
     replace hx436_0 := xc HB hx436_0
     have HR436_0 := aS hi436_0
     have HC436_0 := aS hl436_0
     clear hi436_0 hl436_0
     replace p436 := eq_true p436
     replace q436 := eq_true q436
     go_wp2_with (first | (refine gL 50 16 Tryz.func50 #[.slice A436_0 (rd_L9 l0_0 x3_1).length c436_0] ?_; (with_reducible refine (prolepsisref06_Right.calls k1 _ _ (rd_L9 l0_0 x3_1) false _ ?side1 ?side2 A5.out).mono ?_); (case side1 => repeat (first | exact (Kd.C_below HR436_0.out HB.out) | (with_reducible refine Kd.C_alloc ?_ _) | (with_reducible refine Kd.C_drewN ?_ _) | (with_reducible refine Kd.C_drew ?_))); (case side2 => exact HC436_0.out); rintro e w10 ⟨rfl, hb⟩; refine ⟨_, rfl, ?_⟩; replace BK435 := aS (blk_below (kb BK435) hb); replace HB := aS (below_step bS hb); (try clear hb); (try clear hb2); (try clear hk); (try clear hi)))
     go_ret
     exact ⟨by first | rfl | (simp <;> rfl) | (simp [*] <;> rfl), bS⟩
   ·rw [if_neg c3] at H
    have c3b0 : decide (x3_1 < (l0_0.length : Int)) = false := decide_eq_false c3
    clear c3
    obtain rfl := Option.some.inj H
    have hz11 := cel3 BK435.out
    go_wp2
    go_ret
    exact ⟨by first | rfl | (simp <;> rfl) | (simp [*] <;> rfl), bS⟩
def prolepsisref07_At.f (l0_0 : List (List (S52))) (a0_1 : Int) (a0_2 : Int) (a1 : Int) (a2 : Int) : Option (Int × Int × Int × Int × Int × Int × Int × Bool) := (prolepsisref07_Has.f l0_0 a0_1 a0_2 a1).bind fun t440 => (if t440 = true then (if a2 < 0 then (some (0, 0, 0, 0, 0, 0, 0, false)) else ((prolepsisref07_Cols.f l0_0 a0_1 a0_2).bind fun t441 => (if a2 ≥ t441 then (some (0, 0, 0, 0, 0, 0, 0, false)) else (if 0 ≤ a1 then (if a1 < (l0_0.length : Int) then (if 0 ≤ a2 then (if a2 < ((rd_L9 l0_0 a1).length : Int) then (some ((rd_T52 (rd_L9 l0_0 a1) a2).f0, (rd_T52 (rd_L9 l0_0 a1) a2).f1.f0, (rd_T52 (rd_L9 l0_0 a1) a2).f1.f1, (rd_T52 (rd_L9 l0_0 a1) a2).f2, (rd_T52 (rd_L9 l0_0 a1) a2).f3.f0, (rd_T52 (rd_L9 l0_0 a1) a2).f3.f1, (rd_T52 (rd_L9 l0_0 a1) a2).f3.f2, true)) else (none)) else (none)) else (none)) else (none))))) else (some (0, 0, 0, 0, 0, 0, 0, false)))
set_option maxHeartbeats 8000000 in
set_option maxRecDepth 100000 in
theorem prolepsisref07_At.calls (A0_0 : Option Addr) (c0_0 : Nat) (l0_0 : List (List (S52))) (a0_1 : Int) (a0_2 : Int) (a1 : Int) (a2 : Int) (r1 : Int) (r2 : Int) (r3 : Int) (r4 : Int) (r5 : Int) (r6 : Int) (r7 : Int) (r8 : Bool) (w : World) (hr0_0 : Kd.C (Kd.slice 52 k52) w A0_0 l0_0.length l0_0) (hc0_0 : l0_0.length ≤ c0_0) (h : prolepsisref07_At.f l0_0 a0_1 a0_2 a1 a2 = some (r1, r2, r3, r4, r5, r6, r7, r8)) :
 Calls Tryz.prog 14 #[.agg #[.slice A0_0 l0_0.length c0_0, .int .i64 a0_1, .int .i64 a0_2], .int .i64 a1, .int .i64 a2] w fun e w' => e = .returned (.tuple #[.agg #[.int .i64 r1, .int .i64 r2, .int .i64 r3, .int .u8 r4, .int .u8 r5, .int .u8 r6, .int .u8 r7], .bool r8]) ∧ Below w.heap.size w w' := by
 have hu32 := Tryz.underlying32
 have hu52 := Tryz.underlying52
 have HR0_0 := aS hr0_0
 have HC0_0 := aS hc0_0
 clear hr0_0 hc0_0
 have HB := aS (Below.refl w.heap.size w)
 have H : ((prolepsisref07_Has.f l0_0 a0_1 a0_2 a1).bind fun t440 => (if t440 = true then (if a2 < 0 then (some (0, 0, 0, 0, 0, 0, 0, false)) else ((prolepsisref07_Cols.f l0_0 a0_1 a0_2).bind fun t441 => (if a2 ≥ t441 then (some (0, 0, 0, 0, 0, 0, 0, false)) else (if 0 ≤ a1 then (if a1 < (l0_0.length : Int) then (if 0 ≤ a2 then (if a2 < ((rd_L9 l0_0 a1).length : Int) then (some ((rd_T52 (rd_L9 l0_0 a1) a2).f0, (rd_T52 (rd_L9 l0_0 a1) a2).f1.f0, (rd_T52 (rd_L9 l0_0 a1) a2).f1.f1, (rd_T52 (rd_L9 l0_0 a1) a2).f2, (rd_T52 (rd_L9 l0_0 a1) a2).f3.f0, (rd_T52 (rd_L9 l0_0 a1) a2).f3.f1, (rd_T52 (rd_L9 l0_0 a1) a2).f3.f2, true)) else (none)) else (none)) else (none)) else (none))))) else (some (0, 0, 0, 0, 0, 0, 0, false)))) = some (r1, r2, r3, r4, r5, r6, r7, r8) := h
 clear h
 replace H := Option.bind_eq_some_iff.mp H
 obtain ⟨t440, A40, H⟩ := H
 try dsimp only at H
 have A4 := aS A40
 clear A40
 by_cases c5 : t440 = true
 ·subst c5
  have H1 : (if a2 < 0 then (some (0, 0, 0, 0, 0, 0, 0, false)) else ((prolepsisref07_Cols.f l0_0 a0_1 a0_2).bind fun t441 => (if a2 ≥ t441 then (some (0, 0, 0, 0, 0, 0, 0, false)) else (if 0 ≤ a1 then (if a1 < (l0_0.length : Int) then (if 0 ≤ a2 then (if a2 < ((rd_L9 l0_0 a1).length : Int) then (some ((rd_T52 (rd_L9 l0_0 a1) a2).f0, (rd_T52 (rd_L9 l0_0 a1) a2).f1.f0, (rd_T52 (rd_L9 l0_0 a1) a2).f1.f1, (rd_T52 (rd_L9 l0_0 a1) a2).f2, (rd_T52 (rd_L9 l0_0 a1) a2).f3.f0, (rd_T52 (rd_L9 l0_0 a1) a2).f3.f1, (rd_T52 (rd_L9 l0_0 a1) a2).f3.f2, true)) else (none)) else (none)) else (none)) else (none))))) = some (r1, r2, r3, r4, r5, r6, r7, r8) := by rw [if_pos rfl] at H; exact H
  clear H
  have H := H1
  clear H1
  by_cases c6 : a2 < 0
  ·rw [if_pos c6] at H
   have c6b0 : decide (a2 < 0) = true := decide_eq_true c6
   clear c6
   simp only [Option.some.injEq, Prod.mk.injEq] at H
   obtain ⟨rfl, rfl, rfl, rfl, rfl, rfl, rfl, rfl⟩ := H
   go_enter Tryz.func14, Tryz.ntmps14
   go_wp2_with (first | (refine bx 3 #[.slice A0_0 l0_0.length c0_0, .int .i64 a0_1, .int .i64 a0_2] 32 ?_; intro gb438 hg w7 hbox hb; have BK438 := aS (hbox); have GW438 := aS (gw HB hg); have GE438 := aS (gw HB hg); replace HB := aS (below_step bB hb); clear hb hbox hg) | (refine bx 6 #[.int .i64 0, .int .i64 0, .int .i64 0, .int .u8 0, .int .u8 0, .int .u8 0, .int .u8 0] 52 ?_; intro gb439 hg w8 hbox hb; have BK439 := aS (hbox); have GW439 := aS (gw HB hg); have GE439 := aS (gw HB hg); replace HB := aS (below_step bS hb); have NB438_439 := aS ((by rw [hg]; exact Nat.ne_of_lt (blk_lt (kb BK438)) : gb438 ≠ gb439)); have NB439_438 := aS ((by rw [hg]; exact Nat.ne_of_gt (blk_lt (kb BK438)) : gb439 ≠ gb438)); replace BK438 := aS (blk_below (kb BK438) hb); clear hb hbox hg; have hnb9 := NB438_439.out; have hnc9 := NB439_438.out; have hz10 := cel3 BK438.out) | (refine gL 18 10 Tryz.func18 #[.agg #[.slice A0_0 l0_0.length c0_0, .int .i64 a0_1, .int .i64 a0_2], .int .i64 a1] ?_; (with_reducible refine (prolepsisref07_Has.calls _ _ l0_0 a0_1 a0_2 a1 true _ ?side1 ?side2 A4.out).mono ?_); (case side1 => repeat (first | exact (Kd.C_below HR0_0.out HB.out) | (with_reducible refine Kd.C_alloc ?_ _) | (with_reducible refine Kd.C_drewN ?_ _) | (with_reducible refine Kd.C_drew ?_))); (case side2 => exact HC0_0.out); rintro e w11 ⟨rfl, hb⟩; refine ⟨_, rfl, ?_⟩; replace BK438 := aS (blk_below (kb BK438) hb); replace BK439 := aS (blk_below (kb BK439) hb); replace HB := aS (below_step bS hb); (try clear hb); (try clear hb2); (try clear hk); (try clear hi); have hz12 := cel7 BK439.out))
   refine bodyPost_ret (results_ct rfl _ _ gb439 52 #[.int .i64 0, .int .i64 0, .int .i64 0, .int .u8 0, .int .u8 0, .int .u8 0, .int .u8 0] (0, 0) _ rfl (kp BK439) Tryz.underlying52 rfl (by kernel_rfl)) rfl ?_
   exact ⟨by first | rfl | (simp <;> rfl) | (simp [*] <;> rfl), bS⟩
  ·rw [if_neg c6] at H
   have c6b0 : decide (a2 < 0) = false := decide_eq_false c6
   clear c6
   replace H := Option.bind_eq_some_iff.mp H
   obtain ⟨t441, A130, H⟩ := H
   try dsimp only at H
   have A13 := aS A130
   clear A130
   by_cases c14 : a2 ≥ t441
   ·rw [if_pos c14] at H
    have c14b0 : decide (t441 ≤ a2) = true := decide_eq_true c14
    clear c14
    simp only [Option.some.injEq, Prod.mk.injEq] at H
    obtain ⟨rfl, rfl, rfl, rfl, rfl, rfl, rfl, rfl⟩ := H
    go_enter Tryz.func14, Tryz.ntmps14
    go_wp2_with (first | (refine bx 3 #[.slice A0_0 l0_0.length c0_0, .int .i64 a0_1, .int .i64 a0_2] 32 ?_; intro gb438 hg w15 hbox hb; have BK438 := aS (hbox); have GW438 := aS (gw HB hg); have GE438 := aS (gw HB hg); replace HB := aS (below_step bB hb); clear hb hbox hg) | (refine bx 6 #[.int .i64 0, .int .i64 0, .int .i64 0, .int .u8 0, .int .u8 0, .int .u8 0, .int .u8 0] 52 ?_; intro gb439 hg w16 hbox hb; have BK439 := aS (hbox); have GW439 := aS (gw HB hg); have GE439 := aS (gw HB hg); replace HB := aS (below_step bS hb); have NB438_439 := aS ((by rw [hg]; exact Nat.ne_of_lt (blk_lt (kb BK438)) : gb438 ≠ gb439)); have NB439_438 := aS ((by rw [hg]; exact Nat.ne_of_gt (blk_lt (kb BK438)) : gb439 ≠ gb438)); replace BK438 := aS (blk_below (kb BK438) hb); clear hb hbox hg; have hnb17 := NB438_439.out; have hnc17 := NB439_438.out; have hz18 := cel3 BK438.out) | (refine gL 18 10 Tryz.func18 #[.agg #[.slice A0_0 l0_0.length c0_0, .int .i64 a0_1, .int .i64 a0_2], .int .i64 a1] ?_; (with_reducible refine (prolepsisref07_Has.calls _ _ l0_0 a0_1 a0_2 a1 true _ ?side1 ?side2 A4.out).mono ?_); (case side1 => repeat (first | exact (Kd.C_below HR0_0.out HB.out) | (with_reducible refine Kd.C_alloc ?_ _) | (with_reducible refine Kd.C_drewN ?_ _) | (with_reducible refine Kd.C_drew ?_))); (case side2 => exact HC0_0.out); rintro e w19 ⟨rfl, hb⟩; refine ⟨_, rfl, ?_⟩; replace BK438 := aS (blk_below (kb BK438) hb); replace BK439 := aS (blk_below (kb BK439) hb); replace HB := aS (below_step bS hb); (try clear hb); (try clear hb2); (try clear hk); (try clear hi); have hz20 := cel3 BK438.out) | (go_at_call 19; (with_reducible refine (prolepsisref07_Cols.calls _ _ l0_0 a0_1 a0_2 t441 _ ?side1 ?side2 A13.out).mono ?_); (case side1 => repeat (first | exact (Kd.C_below HR0_0.out HB.out) | (with_reducible refine Kd.C_alloc ?_ _) | (with_reducible refine Kd.C_drewN ?_ _) | (with_reducible refine Kd.C_drew ?_))); (case side2 => exact HC0_0.out); rintro e w21 ⟨rfl, hb⟩; replace BK438 := aS (blk_below (kb BK438) hb); replace BK439 := aS (blk_below (kb BK439) hb); replace HB := aS (below_step bS hb); (try clear hb); (try clear hb2); (try clear hk); (try clear hi); have hz22 := cel7 BK439.out))
    refine bodyPost_ret (results_ct rfl _ _ gb439 52 #[.int .i64 0, .int .i64 0, .int .i64 0, .int .u8 0, .int .u8 0, .int .u8 0, .int .u8 0] (0, 0) _ rfl (kp BK439) Tryz.underlying52 rfl (by kernel_rfl)) rfl ?_
    exact ⟨by first | rfl | (simp <;> rfl) | (simp [*] <;> rfl), bS⟩
   ·rw [if_neg c14] at H
    have c14b0 : decide (t441 ≤ a2) = false := decide_eq_false c14
    clear c14
    obtain ⟨c23, H⟩ := ifS H
    have c23b0 : decide (0 ≤ a1) = true := decide_eq_true c23
    clear c23
    obtain ⟨c24, H⟩ := ifS H
    have c24b0 : decide (a1 < (l0_0.length : Int)) = true := decide_eq_true c24
    clear c24
    obtain ⟨c25, H⟩ := ifS H
    have c25b0 : decide (0 ≤ a2) = true := decide_eq_true c25
    clear c25
    obtain ⟨c26, H⟩ := ifS H
    have c26b0 : decide (a2 < ((rd_L9 l0_0 a1).length : Int)) = true := decide_eq_true c26
    clear c26
    simp only [Option.some.injEq, Prod.mk.injEq] at H
    obtain ⟨rfl, rfl, rfl, rfl, rfl, rfl, rfl, rfl⟩ := H
    go_enter Tryz.func14, Tryz.ntmps14
    go_wp2_with (first | (refine bx 3 #[.slice A0_0 l0_0.length c0_0, .int .i64 a0_1, .int .i64 a0_2] 32 ?_; intro gb438 hg w27 hbox hb; have BK438 := aS (hbox); have GW438 := aS (gw HB hg); have GE438 := aS (gw HB hg); replace HB := aS (below_step bB hb); clear hb hbox hg) | (refine bx 6 #[.int .i64 0, .int .i64 0, .int .i64 0, .int .u8 0, .int .u8 0, .int .u8 0, .int .u8 0] 52 ?_; intro gb439 hg w28 hbox hb; have BK439 := aS (hbox); have GW439 := aS (gw HB hg); have GE439 := aS (gw HB hg); replace HB := aS (below_step bS hb); have NB438_439 := aS ((by rw [hg]; exact Nat.ne_of_lt (blk_lt (kb BK438)) : gb438 ≠ gb439)); have NB439_438 := aS ((by rw [hg]; exact Nat.ne_of_gt (blk_lt (kb BK438)) : gb439 ≠ gb438)); replace BK438 := aS (blk_below (kb BK438) hb); clear hb hbox hg; have hnb29 := NB438_439.out; have hnc29 := NB439_438.out; have hz30 := cel3 BK438.out) | (refine gL 18 10 Tryz.func18 #[.agg #[.slice A0_0 l0_0.length c0_0, .int .i64 a0_1, .int .i64 a0_2], .int .i64 a1] ?_; (with_reducible refine (prolepsisref07_Has.calls _ _ l0_0 a0_1 a0_2 a1 true _ ?side1 ?side2 A4.out).mono ?_); (case side1 => repeat (first | exact (Kd.C_below HR0_0.out HB.out) | (with_reducible refine Kd.C_alloc ?_ _) | (with_reducible refine Kd.C_drewN ?_ _) | (with_reducible refine Kd.C_drew ?_))); (case side2 => exact HC0_0.out); rintro e w31 ⟨rfl, hb⟩; refine ⟨_, rfl, ?_⟩; replace BK438 := aS (blk_below (kb BK438) hb); replace BK439 := aS (blk_below (kb BK439) hb); replace HB := aS (below_step bS hb); (try clear hb); (try clear hb2); (try clear hk); (try clear hi); have hz32 := cel3 BK438.out) | (go_at_call 19; (with_reducible refine (prolepsisref07_Cols.calls _ _ l0_0 a0_1 a0_2 t441 _ ?side1 ?side2 A13.out).mono ?_); (case side1 => repeat (first | exact (Kd.C_below HR0_0.out HB.out) | (with_reducible refine Kd.C_alloc ?_ _) | (with_reducible refine Kd.C_drewN ?_ _) | (with_reducible refine Kd.C_drew ?_))); (case side2 => exact HC0_0.out); rintro e w33 ⟨rfl, hb⟩; replace BK438 := aS (blk_below (kb BK438) hb); replace BK439 := aS (blk_below (kb BK439) hb); replace HB := aS (below_step bS hb); (try clear hb); (try clear hb2); (try clear hk); (try clear hi); have hz34 := cel3 BK438.out; have p442 : 0 ≤ (a1 : Int) := dA; have q442 : a1 < (l0_0.length : Int) := dA; obtain ⟨ad442, A442_0, c442_0, e442, hx442_0, hl442_0, hi442_0⟩ := at_L9 HR0_0.out a1 p442 q442; cases e442; replace hx442_0 := xc HB hx442_0; have HR442_0 := aS hi442_0; have HC442_0 := aS hl442_0; clear hi442_0 hl442_0; replace p442 := eq_true p442; replace q442 := eq_true q442; have p443 : 0 ≤ (a2 : Int) := dA; have q443 : a2 < ((rd_L9 l0_0 a1).length : Int) := dA; obtain ⟨ad443, e443, hx443_0, hx443_1, hx443_2, hx443_3, hx443_4, hx443_5, hx443_6⟩ := at_T52 HR442_0.out a2 p443 q443; cases e443; replace hx443_0 := xc HB hx443_0; replace hx443_1 := xc HB hx443_1; replace hx443_2 := xc HB hx443_2; replace hx443_3 := xc HB hx443_3; replace hx443_4 := xc HB hx443_4; replace hx443_5 := xc HB hx443_5; replace hx443_6 := xc HB hx443_6; replace p443 := eq_true p443; replace q443 := eq_true q443; have hz35 := cel7 BK439.out))
    refine bodyPost_ret (results_ct rfl _ _ gb439 52 #[.int .i64 ((rd_T52 (rd_L9 l0_0 a1) a2).f0), .int .i64 ((rd_T52 (rd_L9 l0_0 a1) a2).f1.f0), .int .i64 ((rd_T52 (rd_L9 l0_0 a1) a2).f1.f1), .int .u8 ((rd_T52 (rd_L9 l0_0 a1) a2).f2), .int .u8 ((rd_T52 (rd_L9 l0_0 a1) a2).f3.f0), .int .u8 ((rd_T52 (rd_L9 l0_0 a1) a2).f3.f1), .int .u8 ((rd_T52 (rd_L9 l0_0 a1) a2).f3.f2)] (0, 0) _ rfl (kp BK439) Tryz.underlying52 rfl (by kernel_rfl)) rfl ?_
    exact ⟨by first | rfl | (simp <;> rfl) | (simp [*] <;> rfl), bS⟩
 ·replace c5 := Bool.eq_false_iff.mpr c5
  subst c5
  have H1 : (some (0, 0, 0, 0, 0, 0, 0, false)) = some (r1, r2, r3, r4, r5, r6, r7, r8) := by rw [if_neg (show ¬ (false = true) by decide)] at H; exact H
  clear H
  have H := H1
  clear H1
  simp only [Option.some.injEq, Prod.mk.injEq] at H
  obtain ⟨rfl, rfl, rfl, rfl, rfl, rfl, rfl, rfl⟩ := H
  go_enter Tryz.func14, Tryz.ntmps14
  go_wp2_with (first | (refine bx 3 #[.slice A0_0 l0_0.length c0_0, .int .i64 a0_1, .int .i64 a0_2] 32 ?_; intro gb438 hg w36 hbox hb; have BK438 := aS (hbox); have GW438 := aS (gw HB hg); have GE438 := aS (gw HB hg); replace HB := aS (below_step bB hb); clear hb hbox hg) | (refine bx 6 #[.int .i64 0, .int .i64 0, .int .i64 0, .int .u8 0, .int .u8 0, .int .u8 0, .int .u8 0] 52 ?_; intro gb439 hg w37 hbox hb; have BK439 := aS (hbox); have GW439 := aS (gw HB hg); have GE439 := aS (gw HB hg); replace HB := aS (below_step bS hb); have NB438_439 := aS ((by rw [hg]; exact Nat.ne_of_lt (blk_lt (kb BK438)) : gb438 ≠ gb439)); have NB439_438 := aS ((by rw [hg]; exact Nat.ne_of_gt (blk_lt (kb BK438)) : gb439 ≠ gb438)); replace BK438 := aS (blk_below (kb BK438) hb); clear hb hbox hg; have hnb38 := NB438_439.out; have hnc38 := NB439_438.out; have hz39 := cel3 BK438.out) | (refine gL 18 10 Tryz.func18 #[.agg #[.slice A0_0 l0_0.length c0_0, .int .i64 a0_1, .int .i64 a0_2], .int .i64 a1] ?_; (with_reducible refine (prolepsisref07_Has.calls _ _ l0_0 a0_1 a0_2 a1 false _ ?side1 ?side2 A4.out).mono ?_); (case side1 => repeat (first | exact (Kd.C_below HR0_0.out HB.out) | (with_reducible refine Kd.C_alloc ?_ _) | (with_reducible refine Kd.C_drewN ?_ _) | (with_reducible refine Kd.C_drew ?_))); (case side2 => exact HC0_0.out); rintro e w40 ⟨rfl, hb⟩; refine ⟨_, rfl, ?_⟩; replace BK438 := aS (blk_below (kb BK438) hb); replace BK439 := aS (blk_below (kb BK439) hb); replace HB := aS (below_step bS hb); (try clear hb); (try clear hb2); (try clear hk); (try clear hi); have hz41 := cel7 BK439.out))
  refine bodyPost_ret (results_ct rfl _ _ gb439 52 #[.int .i64 0, .int .i64 0, .int .i64 0, .int .u8 0, .int .u8 0, .int .u8 0, .int .u8 0] (0, 0) _ rfl (kp BK439) Tryz.underlying52 rfl (by kernel_rfl)) rfl ?_
  exact ⟨by first | rfl | (simp <;> rfl) | (simp [*] <;> rfl), bS⟩
def prolepsislaw07_count.f (a0 : Bool) (a1 : Int) : Option (Int) := if a0 = true then (some a1) else (some 0)
set_option maxHeartbeats 8000000 in
set_option maxRecDepth 100000 in
theorem prolepsislaw07_count.calls (a0 : Bool) (a1 : Int) (r : Int) (w : World) (h : prolepsislaw07_count.f a0 a1 = some r) :
 Calls Tryz.prog 17 #[.bool a0, .int .i64 a1] w fun e w' => e = .returned (.int .i64 r) ∧ Drawn0 w w' := by
 have H : (if a0 = true then (some a1) else (some 0)) = some r := h
 clear h
 by_cases c3 : a0 = true
 ·subst c3
  have H1 : (some a1) = some r := by rw [if_pos rfl] at H; exact H
  clear H
  have H := H1
  clear H1
  obtain rfl := Option.some.inj H
  go_enter Tryz.func17, Tryz.ntmps17
  go_wp2
  go_ret
  exact ⟨by first | rfl | (simp; done) | (simp [*]; done), by repeat (first | exact Drawn0.refl _ | apply Drawn0.step)⟩
 ·replace c3 := Bool.eq_false_iff.mpr c3
  subst c3
  have H1 : (some 0) = some r := by rw [if_neg (show ¬ (false = true) by decide)] at H; exact H
  clear H
  have H := H1
  clear H1
  obtain rfl := Option.some.inj H
  go_enter Tryz.func17, Tryz.ntmps17
  go_wp2
  go_ret
  exact ⟨by first | rfl | (simp; done) | (simp [*]; done), by repeat (first | exact Drawn0.refl _ | apply Drawn0.step)⟩
end Go.Proofs.YtblcmcdifgclcaaGreat.PGridPlays
