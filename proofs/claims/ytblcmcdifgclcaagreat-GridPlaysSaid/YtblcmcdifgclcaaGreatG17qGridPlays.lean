/- GridPlays: what its proof leads to. No condition. -/
import Derived.Test.YtblcmcdifgclcaaGreatG13qGridPlays
import Derived.Test.YtblcmcdifgclcaaGreatG16qGridPlays
import Derived.Test.YtblcmcdifgclcaaGreatG6qGridPlays
namespace Go.Proofs.YtblcmcdifgclcaaGreat.PGridPlays
open Go.RowKit Go.Proofs.YtblcmcdifgclcaaGreatW.PrintWords Go.Proofs.YtblcmcdifgclcaaGreatW.PrintLast Go.Proofs.YtblcmcdifgclcaaGreatW.PrintMore
attribute [local go_sem] isSome_setCell max2_int min2_int max_two min_two
set_option linter.unusedVariables false
set_option linter.unusedSimpArgs false
def prolepsisref07_New.l0 : Nat → Int → Int → Int → List (List (S52)) → Int → Int → Option ((List (List (S52))) × Int × Int)
 | 0, _, _, _, _, _, _ => none
 | k + 1, x0, x1, x6, x276000, x276001, x276002 => if x6 < x0 then ((prolepsisref06_New.f k x1).bind fun t276 => (if x276000.length < 5864062014805 then (prolepsisref07_New.l0 k x0 x1 (wrap64 (x6 + 1)) (x276000 ++ [t276]) x276001 x276002) else (none))) else (some (x276000, x276001, x276002))
def prolepsisref07_New.f (k : Nat) (a0 : Int) (a1 : Int) : Option ((List (List (S52))) × Int × Int) := prolepsisref07_New.l0 k a0 a1 0 ([] : List (List (S52))) 0 0
def prolepsisref07_New.T5 : Bool × List (List Nat × List Nat) := (true, [([], []), ([0], [0]), ([], []), ([2], [2]), ([3], [3]), ([1, 4, 3], [1, 4]), ([0, 1, 2, 3, 4, 5], []), ([6, 5, 5, 0, 1, 2, 3, 4, 5], [5, 6])])
def prolepsisref07_New.B5 : List Nat := [0, 1, 0, 4, 12, 31, 63, 127]
theorem prolepsisref07_New.tab5 : rtab .any (opsOf Tryz.f8 5) = prolepsisref07_New.T5 := by kernel_rfl
theorem prolepsisref07_New.bits5 : waitsOk prolepsisref07_New.T5.2 prolepsisref07_New.B5 = true := by kernel_rfl
set_option maxHeartbeats 8000000 in
set_option maxRecDepth 100000 in
theorem prolepsisref07_New.calls (k : Nat) (a0 : Int) (a1 : Int) (r1 : List (List (S52))) (r2 : Int) (r3 : Int) (w : World) (h : prolepsisref07_New.f k a0 a1 = some (r1, r2, r3)) :
 Calls Tryz.prog 8 #[.int .i64 a0, .int .i64 a1] w fun e w' => ∃ v0_ : Value, e = .returned (.agg #[v0_, .int .i64 r2, .int .i64 r3]) ∧ Kd.S (Kd.slice 52 k52) 72 w' w.heap.size (fun _ => True) v0_ r1 ∧ Below w.heap.size w w' := by
 have hu32 := Tryz.underlying32
 have HB := aS (Below.refl w.heap.size w)
 have H : (prolepsisref07_New.l0 k a0 a1 0 ([] : List (List (S52))) 0 0) = some (r1, r2, r3) := h
 clear h
 have H' := aS H
 clear H
 go_enter Tryz.func8, Tryz.ntmps8
 go_wp2_with (first | (refine bx 4 #[.slice none 0 0, .int .i64 0, .int .i64 0] 32 ?_; intro gb274 hg w3 hbox hb; have BK274 := aS (hbox); have GW274 := aS (gw HB hg); have GE274 := aS (gw HB hg); replace HB := aS (below_step bB hb); clear hb hbox hg) | (refine bx 5 #[.slice none 0 0, .int .i64 0, .int .i64 0] 32 ?_; intro gb275 hg w4 hbox hb; have BK275 := aS (hbox); have GW275 := aS (gw HB hg); have GE275 := aS (gw HB hg); replace HB := aS (below_step bS hb); have NB274_275 := aS ((by rw [hg]; exact Nat.ne_of_lt (blk_lt (kb BK274)) : gb274 ≠ gb275)); have NB275_274 := aS ((by rw [hg]; exact Nat.ne_of_gt (blk_lt (kb BK274)) : gb275 ≠ gb274)); replace BK274 := aS (blk_below (kb BK274) hb); clear hb hbox hg))
 go_loopg [6] k (fun kq v6 w' => ∃ (x6_1 : Int) (x276000_1 : List (List (S52))) (u276000 : Value), v6 = .int .i64 x6_1 ∧ Aside0 (prolepsisref07_New.l0 kq a0 a1 x6_1 x276000_1 0 0 = some (r1, r2, r3)) ∧ Aside0 (kq ≤ k) ∧ Aside0 (Kd.S (Kd.slice 52 k52) 72 w' w.heap.size (fun _ => True) u276000 x276000_1) ∧ Aside0 (w'.heap[gb274]? = some (.cells #[(.slice none 0 0), .int .i64 0, .int .i64 0] 32 (0, 0))) ∧ Aside0 (w'.heap[gb275]? = some (.cells #[u276000, .int .i64 0, .int .i64 0] 32 (0, 0))) ∧ Aside0 (Below w.heap.size w w'))
 case atStart => exact ⟨(0), (([] : List (List (S52)))), (.slice none 0 0), fS, H', ⟨Nat.le_refl _⟩, ⟨by first | exact Kd.S_nil _ _ _ _ _ | exact Kd.N_nil _ _ _ _ _ | exact Kd.V_nil _ _ _ _ _ | exact Kd.Q_nil _ _ _ _ _ | exact Kd.R_nil _ _ _ _ _⟩, ⟨kb BK274⟩, ⟨kb BK275⟩, ⟨bS⟩⟩
 case round =>
  clear H'
  try clear p2
  obtain ⟨x6_1, x276000_1, u276000, rfl, HA, HK1, HO_276000, BK274, BK275, HB⟩ := hrel
  cases gk with
  | zero => exact absurd HA.out (by simp [prolepsisref07_New.l0])
  | succ k1 =>
   have H := HA.out
   clear HA
   simp only [prolepsisref07_New.l0] at H
   by_cases c5 : x6_1 < a0
   ·rw [if_pos c5] at H
    have c5b0 : decide (x6_1 < a0) = true := decide_eq_true c5
    clear c5
    replace H := Option.bind_eq_some_iff.mp H
    obtain ⟨t276, A60, H⟩ := H
    try dsimp only at H
    have A6 := aS A60
    clear A60
    obtain ⟨c7, H⟩ := ifS H
    have LMc7 := aS c7
    clear c7
    obtain ⟨y279, hy279⟩ : ∃ y_ : List (List (S52)), y_ = (x276000_1 ++ [t276]) := ⟨_, rfl⟩
    replace H : (prolepsisref07_New.l0 k1 a0 a1 (wrap64 (x6_1 + 1)) y279 0 0) = some (r1, r2, r3) := rq hy279 H
    have Ny279 := aS hy279
    clear hy279
    have H' := aS H
    clear H
    try go_wp2
    replace HO_276000 := aS (Kd.S_drew HO_276000.out)
    replace BK274 := aS (blk_drew BK274.out)
    replace BK275 := aS (blk_drew BK275.out)
    replace HB := aS (below_drew1 HB.out)
    refine start_ (n := 8) (S := fun w' => w'.cell? ⟨gb275, 0, none⟩ = some (u276000) ∧ w'.cell? ⟨gb275, 1, none⟩ = some (.int .i64 0) ∧ w'.cell? ⟨gb275, 2, none⟩ = some (.int .i64 0)) (ds := [7]) (tb 8 0) (by kernel_rfl) rfl rfl (c3 BK275.out) (fun hHeld => ?_); refine with_tabW prolepsisref07_New.tab5 prolepsisref07_New.bits5 (fun HT_ HW_ => ?_)
    generalize wr.drew = w8 at HO_276000 BK274 BK275 HB hHeld ⊢
    refine tp 0 (some 12) (tb 8 1) ?_
    refine tp 2 (some 14) (tb 8 5) ?_
    refine tk 1 (some 13) (tb 8 7) ?_
    refine st1 3 (some 15) (tb 8 15) (fun K hK => ?_)
    refine gO Tryz.func29 #[.int .i64 a1] ?_
    with_reducible refine (prolepsisref06_New.calls k1 a1 t276 _ A6.out).mono ?_
    rintro e w9 ⟨v277, rfl, ho0, hb⟩
    refine ⟨_, rfl, ?_⟩
    replace HO_276000 := aS (Kd.S_elder' (by (with_reducible repeat (first | apply Kd.S_alloc | apply Kd.S_drewN | apply Kd.S_drew)); exact HO_276000.out) (Kd.R_base ho0) hb)
    have HO278 := aS (Kd.R_lower ho0 (below_size bS))
    replace BK274 := aS (blk_below (kb BK274) hb)
    replace BK275 := aS (blk_below (kb BK275) hb)
    replace HB := aS (below_step bS hb)
    (try clear hb)
    (try clear hb2)
    (try clear hk)
    (try clear hi)
    (try clear ho0)
    obtain ⟨Ao11, co11, eo11⟩ := Kd.R_slice HO278.out
    (first | subst eo11 | (injection eo11 with f1_ f2_ f3_; have f4_ := f1_.symm; have f5_ := f3_.symm; clear f1_ f2_ f3_; subst f4_; subst f5_))
    refine hK.out _ _ (c3 BK275.out) (fun hHeld => ?_)
    clear hK K
    refine nm ?_
    refine st1 4 (some 16) (tb 8 31) (fun K hK => ?_)
    refine value_ (w1 := ?_) (v := ?_) (by rfl) rfl ?_ ?_
    rotate_left 2
    ·go_simp
     constructor
     ·rfl
     ·rfl
    refine hK.out _ _ ⟨(blk_cell (blk_alloc BK275.out _) 0).trans rfl, (blk_cell (blk_alloc BK275.out _) 1).trans rfl, (blk_cell (blk_alloc BK275.out _) 2).trans rfl⟩ (fun hHeld => ?_)
    clear hK K
    refine nm ?_
    refine st1 5 (some 17) (tb 8 63) (fun K hK => ?_)
    refine Kd.S_append_step (Kd.slice 52 k52) (w0 := w) w.heap.size (by rfl) (.tmp 13) (.tmp 16) 30 72 (.slice none 0 0) 24 rfl Tryz.underlying30 info72 rfl (by decide) (by omega) u276000 x276000_1 t276 [.slice Ao11 t276.length co11] (fun _ => True) (fun k_ => some k_ = (.slice Ao11 t276.length co11 : Value).ownBlock) rfl rfl ?aP (fun k_ hk_ => ((Kd.R_mono (ok' := fun k_ => ((fun _ => True)) k_ ∧ some k_ ≠ (u276000 : Value).ownBlock) (Kd.R_apart' (HO278.out) (Kd.S_typed HO_276000.out) (by decide)) (fun k_ hk => ⟨trivial, hk.2⟩))).1 k_ hk_.symm) ?aF ?aO ?aB ?aS ?aL ?_
    (case aP => exact Kd.M_row (Kd.R_mono (Kd.R_tight rfl (Kd.R_mono (ok' := fun k_ => ((fun _ => True)) k_ ∧ some k_ ≠ (u276000 : Value).ownBlock) (Kd.R_apart' (HO278.out) (Kd.S_typed HO_276000.out) (by decide)) (fun k_ hk => ⟨trivial, hk.2⟩))) (fun _ h_ => h_)))
    (case aB => exact bS)
    (case aF => exact (fun _ _ => trivial))
    (case aO => exact (by (with_reducible repeat (first | apply Kd.S_alloc | apply Kd.S_drewN | apply Kd.S_drew)); exact Kd.S_mono HO_276000.out (fun k_ hk => ⟨trivial, fun e_ => hk.2 e_⟩)))
    (case aS => exact (below_size bS))
    (case aL => have := LMc7.out; omega)
    intro v280 w10 ho hb hg hat
    rw [← Ny279.out] at ho
    replace BK274 := aS (blk_grown (kb BK274) hg (Kd.S_ne HO_276000.out BK274.out (by decide)))
    replace BK275 := aS (blk_grown (kb BK275) hg (Kd.S_ne HO_276000.out BK275.out (by decide)))
    replace HB := aS (hb)
    have HO281 := aS (ho)
    clear HO_276000 HO278
    clear ho hb hg hat
    obtain ⟨Ao12, co12, eo12⟩ := Kd.S_slice HO281.out
    (first | subst eo12 | (injection eo12 with f1_ f2_ f3_; have f4_ := f1_.symm; have f5_ := f3_.symm; clear f1_ f2_ f3_; subst f4_; subst f5_))
    refine hK.out _ _ (c3 BK275.out) (fun hHeld => ?_)
    clear hK K
    refine nm ?_
    refine tp 6 (some 18) (tb 8 127) ?_
    refine last_ (i := 7) (N := none) (tb 8 255) rfl rfl (one_of HT_.out (by kernel_rfl)) (by decide) (fun K hK => ?_)
    have hs13 : w10.cell? ⟨gb275, 0, none⟩ = some (u276000) := (blk_cell BK275.out 0).trans rfl
    have hfs13 := blk_frozen BK275.out 0
    have hns13_0 := NB274_275.out
    have hms13_0 := NB275_274.out
    refine skip_ (w1 := ?_) (by rfl) rfl ?_ ?_
    rotate_left
    ·go_simp
     rfl
    refine hK.out _ _ ?_
    clear hK K
    refine done_ (done_of HT_.out (by kernel_rfl)) ?_
    try go_wp2
    go_roundg k1
    case measure => have := HK1.out; omega
    case rel => exact ⟨(wrap64 (x6_1 + 1)), (y279), (.slice Ao12 y279.length co12), fS, H', ⟨by have := HK1.out; omega⟩, ⟨by (with_reducible repeat (first | apply Kd.S_alloc | apply Kd.S_drewN | apply Kd.S_drew)); exact Kd.S_mono (Kd.S_far (p := ⟨gb275, 0, none⟩) (Kd.S_types HO281.out BK275.out (by decide)) (fun _ hk => hk.2) (.slice Ao12 y279.length co12)) (fun _ hk => trivial)⟩, ⟨by (with_reducible repeat (first | apply bN | apply bD | apply bA)); refine blk_far ?_ NB274_275.out _; (with_reducible repeat (first | apply bN | apply bD | apply bA)); exact BK274.out⟩, ⟨by (with_reducible repeat (first | apply bN | apply bD | apply bA)); refine blk_put (cs := #[u276000, .int .i64 0, .int .i64 0]) ?_ 0 _ rfl; (with_reducible repeat (first | apply bN | apply bD | apply bA)); exact BK275.out⟩, ⟨bS⟩⟩
   ·rw [if_neg c5] at H
    have c5b0 : decide (x6_1 < a0) = false := decide_eq_false c5
    clear c5
    simp only [Option.some.injEq, Prod.mk.injEq] at H
    obtain ⟨rfl, rfl, rfl⟩ := H
    have hnb14 := NB275_274.out
    have hnc14 := NB274_275.out
    have hz15 := cel3 BK275.out
    obtain ⟨Ao16, co16, eo16⟩ := Kd.S_slice HO_276000.out
    subst eo16
    have hz17 := cel3 BK274.out
    go_wp2
    refine bodyPost_ret (results_cell_row rfl _ _ gb274 32 #[.slice Ao16 x276000_1.length co16, .int .i64 0, .int .i64 0] (0, 0) _ rfl (kp BK274) Tryz.underlying32 rfl (by kernel_rfl)) rfl ?_
    exact ⟨_, by first | rfl | (simp <;> rfl) | (simp [*] <;> rfl), by (with_reducible repeat (first | apply Kd.S_alloc | apply Kd.S_drewN | apply Kd.S_drew)); exact Kd.S_mono (Kd.S_far (p := ⟨gb274, 2, none⟩) (Kd.S_far (p := ⟨gb274, 1, none⟩) (Kd.S_far (p := ⟨gb274, 0, none⟩) (Kd.S_types HO_276000.out BK274.out (by decide)) (fun _ hk => hk.2) (.slice Ao16 x276000_1.length co16)) (fun _ hk => hk.2) (.int .i64 0)) (fun _ hk => hk.2) (.int .i64 0)) (fun _ hk => trivial), bS⟩
def prolepsislaw05_Of.f (a0_0 : Int) (a0_1 : Int) (a0_2 : Int) (a0_3 : Int) (a0_4 : Int) (a0_5 : Int) (a0_6 : Int) : Option (Int × Int × Int × Int × Int × Int × Int) := some (wrap64 (a0_0), wrap64 (a0_1), wrap64 (a0_2), a0_3, a0_4, a0_5, a0_6)
set_option maxHeartbeats 8000000 in
set_option maxRecDepth 100000 in
theorem prolepsislaw05_Of.calls (a0_0 : Int) (a0_1 : Int) (a0_2 : Int) (a0_3 : Int) (a0_4 : Int) (a0_5 : Int) (a0_6 : Int) (r1 : Int) (r2 : Int) (r3 : Int) (r4 : Int) (r5 : Int) (r6 : Int) (r7 : Int) (w : World) (h : prolepsislaw05_Of.f a0_0 a0_1 a0_2 a0_3 a0_4 a0_5 a0_6 = some (r1, r2, r3, r4, r5, r6, r7)) :
 Calls Tryz.prog 15 #[.agg #[.int .i32 a0_0, .int .i32 a0_1, .int .i32 a0_2, .int .u8 a0_3, .int .u8 a0_4, .int .u8 a0_5, .int .u8 a0_6]] w fun e w' => e = .returned (.agg #[.int .i64 r1, .int .i64 r2, .int .i64 r3, .int .u8 r4, .int .u8 r5, .int .u8 r6, .int .u8 r7]) ∧ Below w.heap.size w w' := by
 have hu40 := Tryz.underlying40
 have hu52 := Tryz.underlying52
 have hu49 := Tryz.underlying49
 have hu38 := Tryz.underlying38
 have HB := aS (Below.refl w.heap.size w)
 have H : (some (wrap64 (a0_0), wrap64 (a0_1), wrap64 (a0_2), a0_3, a0_4, a0_5, a0_6)) = some (r1, r2, r3, r4, r5, r6, r7) := h
 clear h
 simp only [Option.some.injEq, Prod.mk.injEq] at H
 obtain ⟨rfl, rfl, rfl, rfl, rfl, rfl, rfl⟩ := H
 go_enter Tryz.func15, Tryz.ntmps15
 go_wp2_with (first | (refine bx 1 #[.int .i32 a0_0, .int .i32 a0_1, .int .i32 a0_2, .int .u8 a0_3, .int .u8 a0_4, .int .u8 a0_5, .int .u8 a0_6] 40 ?_; intro gb282 hg w2 hbox hb; have BK282 := aS (hbox); have GW282 := aS (gw HB hg); have GE282 := aS (gw HB hg); replace HB := aS (below_step bB hb); clear hb hbox hg) | (refine bx 2 #[.int .i64 0, .int .i64 0, .int .i64 0, .int .u8 0, .int .u8 0, .int .u8 0, .int .u8 0] 52 ?_; intro gb283 hg w3 hbox hb; have BK283 := aS (hbox); have GW283 := aS (gw HB hg); have GE283 := aS (gw HB hg); replace HB := aS (below_step bS hb); have NB282_283 := aS ((by rw [hg]; exact Nat.ne_of_lt (blk_lt (kb BK282)) : gb282 ≠ gb283)); have NB283_282 := aS ((by rw [hg]; exact Nat.ne_of_gt (blk_lt (kb BK282)) : gb283 ≠ gb282)); replace BK282 := aS (blk_below (kb BK282) hb); clear hb hbox hg; have hnb4 := NB282_283.out; have hnc4 := NB283_282.out; have hz5 := cel7 BK282.out; have hz6 := cel7 BK283.out))
 refine bodyPost_ret (results_cell_row rfl _ _ gb283 52 #[.int .i64 (wrap64 (a0_0)), .int .i64 (wrap64 (a0_1)), .int .i64 (wrap64 (a0_2)), .int .u8 a0_3, .int .u8 a0_4, .int .u8 a0_5, .int .u8 a0_6] (0, 0) _ rfl (kp BK283) Tryz.underlying52 rfl (by kernel_rfl)) rfl ?_
 exact ⟨by first | rfl | (simp <;> rfl) | (simp [*] <;> rfl), bS⟩
def prolepsisref07_Has.f (l0_0 : List (List (S52))) (a0_1 : Int) (a0_2 : Int) (a1 : Int) : Option (Bool) := if a1 ≥ 0 then (some (decide (a1 < (l0_0.length : Int)))) else (some false)
set_option maxHeartbeats 8000000 in
set_option maxRecDepth 100000 in
theorem prolepsisref07_Has.calls (A0_0 : Option Addr) (c0_0 : Nat) (l0_0 : List (List (S52))) (a0_1 : Int) (a0_2 : Int) (a1 : Int) (r : Bool) (w : World) (hr0_0 : Kd.C (Kd.slice 52 k52) w A0_0 l0_0.length l0_0) (hc0_0 : l0_0.length ≤ c0_0) (h : prolepsisref07_Has.f l0_0 a0_1 a0_2 a1 = some r) :
 Calls Tryz.prog 18 #[.agg #[.slice A0_0 l0_0.length c0_0, .int .i64 a0_1, .int .i64 a0_2], .int .i64 a1] w fun e w' => e = .returned (.bool r) ∧ Below w.heap.size w w' := by
 have hu32 := Tryz.underlying32
 have HR0_0 := aS hr0_0
 have HC0_0 := aS hc0_0
 clear hr0_0 hc0_0
 have HB := aS (Below.refl w.heap.size w)
 have H : (if a1 ≥ 0 then (some (decide (a1 < (l0_0.length : Int)))) else (some false)) = some r := h
 clear h
 by_cases c3 : a1 ≥ 0
 ·rw [if_pos c3] at H
  have c3b0 : decide (0 ≤ a1) = true := decide_eq_true c3
  clear c3
  obtain rfl := Option.some.inj H
  go_enter Tryz.func18, Tryz.ntmps18
  go_wp2_with (first | ((with_reducible refine gate_dst (N := 2) rfl ?_); (try (refine gate_guard (by rfl) ?_; dsimp only)); refine bx 2 #[.slice A0_0 l0_0.length c0_0, .int .i64 a0_1, .int .i64 a0_2] 32 ?_; intro gb284 hg w4 hbox hb; have BK284 := aS (hbox); have GW284 := aS (gw HB hg); have GE284 := aS (gw HB hg); replace HB := aS (below_step bB hb); clear hb hbox hg; have hz5 := cel3 BK284.out))
  go_ret
  exact ⟨by first | rfl | (simp <;> rfl) | (simp [*] <;> rfl), bS⟩
 ·rw [if_neg c3] at H
  have c3b0 : decide (0 ≤ a1) = false := decide_eq_false c3
  clear c3
  obtain rfl := Option.some.inj H
  go_enter Tryz.func18, Tryz.ntmps18
  go_wp2_with (first | ((with_reducible refine gate_dst (N := 2) rfl ?_); (try (refine gate_guard (by rfl) ?_; dsimp only)); refine bx 2 #[.slice A0_0 l0_0.length c0_0, .int .i64 a0_1, .int .i64 a0_2] 32 ?_; intro gb284 hg w6 hbox hb; have BK284 := aS (hbox); have GW284 := aS (gw HB hg); have GE284 := aS (gw HB hg); replace HB := aS (below_step bB hb); clear hb hbox hg))
  go_ret
  exact ⟨by first | rfl | (simp <;> rfl) | (simp [*] <;> rfl), bS⟩
def prolepsisref04_Right.f (a0_0 : Int) (a0_1 : Int) (a0_2 : Int) : Option (Bool) := if a0_0 ≤ 31 then (if a0_1 ≤ 16 then (some (decide (a0_2 ≤ 16))) else (some false)) else (some false)
set_option maxHeartbeats 8000000 in
set_option maxRecDepth 100000 in
theorem prolepsisref04_Right.calls (a0_0 : Int) (a0_1 : Int) (a0_2 : Int) (r : Bool) (w : World) (h : prolepsisref04_Right.f a0_0 a0_1 a0_2 = some r) :
 Calls Tryz.prog 71 #[.agg #[.int .u8 a0_0, .int .u8 a0_1, .int .u8 a0_2]] w fun e w' => e = .returned (.bool r) ∧ Below w.heap.size w w' := by
 have hu50 := Tryz.underlying50
 have HB := aS (Below.refl w.heap.size w)
 have H : (if a0_0 ≤ 31 then (if a0_1 ≤ 16 then (some (decide (a0_2 ≤ 16))) else (some false)) else (some false)) = some r := h
 clear h
 by_cases c2 : a0_0 ≤ 31
 ·rw [if_pos c2] at H
  have c2b0 : decide (a0_0 ≤ 31) = true := decide_eq_true c2
  clear c2
  by_cases c3 : a0_1 ≤ 16
  ·rw [if_pos c3] at H
   have c3b0 : decide (a0_1 ≤ 16) = true := decide_eq_true c3
   clear c3
   obtain rfl := Option.some.inj H
   go_enter Tryz.func71, Tryz.ntmps71
   go_wp2_with (first | (refine bx 1 #[.int .u8 a0_0, .int .u8 a0_1, .int .u8 a0_2] 50 ?_; intro gb285 hg w4 hbox hb; have BK285 := aS (hbox); have GW285 := aS (gw HB hg); have GE285 := aS (gw HB hg); replace HB := aS (below_step bB hb); clear hb hbox hg; have hz5 := cel3 BK285.out))
   go_ret
   exact ⟨by first | rfl | (simp <;> rfl) | (simp [*] <;> rfl), bS⟩
  ·rw [if_neg c3] at H
   have c3b0 : decide (a0_1 ≤ 16) = false := decide_eq_false c3
   clear c3
   obtain rfl := Option.some.inj H
   go_enter Tryz.func71, Tryz.ntmps71
   go_wp2_with (first | (refine bx 1 #[.int .u8 a0_0, .int .u8 a0_1, .int .u8 a0_2] 50 ?_; intro gb285 hg w6 hbox hb; have BK285 := aS (hbox); have GW285 := aS (gw HB hg); have GE285 := aS (gw HB hg); replace HB := aS (below_step bB hb); clear hb hbox hg; have hz7 := cel3 BK285.out))
   go_ret
   exact ⟨by first | rfl | (simp <;> rfl) | (simp [*] <;> rfl), bS⟩
 ·rw [if_neg c2] at H
  have c2b0 : decide (a0_0 ≤ 31) = false := decide_eq_false c2
  clear c2
  obtain rfl := Option.some.inj H
  go_enter Tryz.func71, Tryz.ntmps71
  go_wp2_with (first | (refine bx 1 #[.int .u8 a0_0, .int .u8 a0_1, .int .u8 a0_2] 50 ?_; intro gb285 hg w8 hbox hb; have BK285 := aS (hbox); have GW285 := aS (gw HB hg); have GE285 := aS (gw HB hg); replace HB := aS (below_step bB hb); clear hb hbox hg; have hz9 := cel3 BK285.out))
  go_ret
  exact ⟨by first | rfl | (simp <;> rfl) | (simp [*] <;> rfl), bS⟩
def prolepsisref03_in.l0 : Nat → Int → List Int → Int → Option (Bool)
 | 0, _, _, _ => none
 | k + 1, x0, x1, x5 => if (wrap64 (x5 + 1)) < (x1.length : Int) then (if 0 ≤ x5 then (if x5 < (x1.length : Int) then (if x0 ≥ (rd x1 x5) then (if 0 ≤ (wrap64 (x5 + 1)) then (if x0 ≤ (rd x1 (wrap64 (x5 + 1))) then (some true) else (prolepsisref03_in.l0 k x0 x1 (wrap64 (x5 + 2)))) else (none)) else (prolepsisref03_in.l0 k x0 x1 (wrap64 (x5 + 2)))) else (none)) else (none)) else (some false)
def prolepsisref03_in.f (k : Nat) (a0 : Int) (l1 : List Int) : Option (Bool) := prolepsisref03_in.l0 k a0 l1 0
set_option maxHeartbeats 8000000 in
set_option maxRecDepth 100000 in
theorem prolepsisref03_in.calls (k : Nat) (a0 : Int) (A1 : Option Addr) (c1 : Nat) (l1 : List Int) (r : Bool) (w : World) (hr1 : Kd.C (Kd.int .i64) w A1 l1.length l1) (hc1 : l1.length ≤ c1) (h : prolepsisref03_in.f k a0 l1 = some r) :
 Calls Tryz.prog 107 #[.int .i64 a0, .slice A1 l1.length c1] w fun e w' => e = .returned (.bool r) ∧ Drawn0 w w' := by
 have HR1 := aS hr1
 have HC1 := aS hc1
 clear hr1 hc1
 have H : (prolepsisref03_in.l0 k a0 l1 0) = some r := h
 clear h
 have H' := aS H
 clear H
 go_enter Tryz.func107, Tryz.ntmps107
 go_wp2
 go_loopg [5] k (fun kq v5 w' => ∃ (x5_1 : Int), v5 = .int .i64 x5_1 ∧ Aside0 (prolepsisref03_in.l0 kq a0 l1 x5_1 = some r) ∧ Aside0 (kq ≤ k) ∧ Drawn0 w w')
 case atStart => exact ⟨(0), fS, H', ⟨Nat.le_refl _⟩, by repeat (first | exact Drawn0.refl _ | apply Drawn0.step)⟩
 case round =>
  clear H'
  try clear c1
  try clear p2
  obtain ⟨x5_1, rfl, HA, HK1, ⟨m1, rfl⟩⟩ := hrel
  cases gk with
  | zero => exact absurd HA.out (by simp [prolepsisref03_in.l0])
  | succ k1 =>
   have H := HA.out
   clear HA
   simp only [prolepsisref03_in.l0] at H
   by_cases c3 : (wrap64 (x5_1 + 1)) < (l1.length : Int)
   ·rw [if_pos c3] at H
    have c3b0 : decide ((wrap64 (x5_1 + 1)) < (l1.length : Int)) = true := decide_eq_true c3
    clear c3
    obtain ⟨c4, H⟩ := ifS H
    have c4b0 : decide (0 ≤ x5_1) = true := decide_eq_true c4
    clear c4
    obtain ⟨c5, H⟩ := ifS H
    have c5b0 : decide (x5_1 < (l1.length : Int)) = true := decide_eq_true c5
    clear c5
    by_cases c6 : a0 ≥ (rd l1 x5_1)
    ·rw [if_pos c6] at H
     have c6b0 : decide ((rd l1 x5_1) ≤ a0) = true := decide_eq_true c6
     clear c6
     obtain ⟨ji7, hji7⟩ : ∃ j_ : Int, (wrap64 (x5_1 + 1)) = j_ := ⟨_, rfl⟩
     replace H : (if 0 ≤ (ji7) then (if a0 ≤ (rd l1 (ji7)) then (some true) else (prolepsisref03_in.l0 k1 a0 l1 (wrap64 (x5_1 + 2)))) else (none)) = some r := by first | (rw [hji7] at H; exact H) | (simp only [hji7] at H ⊢; exact H)
     (try rw [hji7] at c3b0)
     have hji7w : (IntKind.i64.wrap (x5_1 + 1)) = ji7 := (i64_w _).trans hji7
     obtain ⟨c8, H⟩ := ifS H
     have c8b0 : decide (0 ≤ (ji7)) = true := decide_eq_true c8
     clear c8
     by_cases c9 : a0 ≤ (rd l1 (ji7))
     ·rw [if_pos c9] at H
      have c9b0 : decide (a0 ≤ (rd l1 (ji7))) = true := decide_eq_true c9
      clear c9
      obtain rfl := Option.some.inj H
      have p286 : 0 ≤ (x5_1 : Int) := dA
      have q286 : x5_1 < (l1.length : Int) := dA
      obtain ⟨ad286, e286, hx286_0⟩ := Kd.at_int HR1.out x5_1 p286 q286
      cases e286
      replace p286 := eq_true p286
      replace q286 := eq_true q286
      have p287 : 0 ≤ ((ji7) : Int) := dA
      have q287 : (ji7) < (l1.length : Int) := dA
      obtain ⟨ad287, e287, hx287_0⟩ := Kd.at_int HR1.out (ji7) p287 q287
      obtain rfl : ad286 = ad287 := (by injection e287)
      replace p287 := eq_true p287
      replace q287 := eq_true q287
      go_wp2
      go_ret
      exact ⟨by first | rfl | (simp; done) | (simp only [← hji7] <;> (first | rfl | simp)) | (simp [*]; done), by repeat (first | exact Drawn0.refl _ | apply Drawn0.step)⟩
     ·rw [if_neg c9] at H
      have c9b0 : decide (a0 ≤ (rd l1 (ji7))) = false := decide_eq_false c9
      clear c9
      have H' := aS H
      clear H
      have p286 : 0 ≤ (x5_1 : Int) := dA
      have q286 : x5_1 < (l1.length : Int) := dA
      obtain ⟨ad286, e286, hx286_0⟩ := Kd.at_int HR1.out x5_1 p286 q286
      cases e286
      replace p286 := eq_true p286
      replace q286 := eq_true q286
      have p287 : 0 ≤ ((ji7) : Int) := dA
      have q287 : (ji7) < (l1.length : Int) := dA
      obtain ⟨ad287, e287, hx287_0⟩ := Kd.at_int HR1.out (ji7) p287 q287
      obtain rfl : ad286 = ad287 := (by injection e287)
      replace p287 := eq_true p287
      replace q287 := eq_true q287
      go_wp2
      go_roundg k1
      case measure => have := HK1.out; omega
      case rel => exact ⟨(wrap64 (x5_1 + 2)), fS, H', ⟨by have := HK1.out; omega⟩, by repeat (first | exact Drawn0.refl _ | apply Drawn0.step)⟩
    ·rw [if_neg c6] at H
     have c6b0 : decide ((rd l1 x5_1) ≤ a0) = false := decide_eq_false c6
     clear c6
     have H' := aS H
     clear H
     have p286 : 0 ≤ (x5_1 : Int) := dA
     have q286 : x5_1 < (l1.length : Int) := dA
     obtain ⟨ad286, e286, hx286_0⟩ := Kd.at_int HR1.out x5_1 p286 q286
     cases e286
     replace p286 := eq_true p286
     replace q286 := eq_true q286
     go_wp2
     go_roundg k1
     case measure => have := HK1.out; omega
     case rel => exact ⟨(wrap64 (x5_1 + 2)), fS, H', ⟨by have := HK1.out; omega⟩, by repeat (first | exact Drawn0.refl _ | apply Drawn0.step)⟩
   ·rw [if_neg c3] at H
    have c3b0 : decide ((wrap64 (x5_1 + 1)) < (l1.length : Int)) = false := decide_eq_false c3
    clear c3
    obtain rfl := Option.some.inj H
    go_wp2
    go_ret
    exact ⟨by first | rfl | (simp; done) | (simp [*]; done), by repeat (first | exact Drawn0.refl _ | apply Drawn0.step)⟩
def prolepsisref02_Scalar.f (a0 : Int) : Option (Bool) := if a0 ≥ 0 then (if a0 ≤ 1114111 then (if a0 < 55296 then (some true) else (some (decide (a0 > 57343)))) else (some false)) else (some false)
set_option maxHeartbeats 8000000 in
set_option maxRecDepth 100000 in
theorem prolepsisref02_Scalar.calls (a0 : Int) (r : Bool) (w : World) (h : prolepsisref02_Scalar.f a0 = some r) :
 Calls Tryz.prog 108 #[.int .i64 a0] w fun e w' => e = .returned (.bool r) ∧ Drawn0 w w' := by
 have H : (if a0 ≥ 0 then (if a0 ≤ 1114111 then (if a0 < 55296 then (some true) else (some (decide (a0 > 57343)))) else (some false)) else (some false)) = some r := h
 clear h
 by_cases c2 : a0 ≥ 0
 ·rw [if_pos c2] at H
  have c2b0 : decide (0 ≤ a0) = true := decide_eq_true c2
  clear c2
  by_cases c3 : a0 ≤ 1114111
  ·rw [if_pos c3] at H
   have c3b0 : decide (a0 ≤ 1114111) = true := decide_eq_true c3
   clear c3
   by_cases c4 : a0 < 55296
   ·rw [if_pos c4] at H
    have c4b0 : decide (a0 < 55296) = true := decide_eq_true c4
    clear c4
    obtain rfl := Option.some.inj H
    go_enter Tryz.func108, Tryz.ntmps108
    go_wp2
    go_ret
    exact ⟨by first | rfl | (simp; done) | (simp [*]; done), by repeat (first | exact Drawn0.refl _ | apply Drawn0.step)⟩
   ·rw [if_neg c4] at H
    have c4b0 : decide (a0 < 55296) = false := decide_eq_false c4
    clear c4
    obtain rfl := Option.some.inj H
    go_enter Tryz.func108, Tryz.ntmps108
    go_wp2
    go_ret
    exact ⟨by first | rfl | (simp; done) | (simp [*]; done), by repeat (first | exact Drawn0.refl _ | apply Drawn0.step)⟩
  ·rw [if_neg c3] at H
   have c3b0 : decide (a0 ≤ 1114111) = false := decide_eq_false c3
   clear c3
   obtain rfl := Option.some.inj H
   go_enter Tryz.func108, Tryz.ntmps108
   go_wp2
   go_ret
   exact ⟨by first | rfl | (simp; done) | (simp [*]; done), by repeat (first | exact Drawn0.refl _ | apply Drawn0.step)⟩
 ·rw [if_neg c2] at H
  have c2b0 : decide (0 ≤ a0) = false := decide_eq_false c2
  clear c2
  obtain rfl := Option.some.inj H
  go_enter Tryz.func108, Tryz.ntmps108
  go_wp2
  go_ret
  exact ⟨by first | rfl | (simp; done) | (simp [*]; done), by repeat (first | exact Drawn0.refl _ | apply Drawn0.step)⟩
def prolepsisref03_Of.j0 : Nat → Int → Bool → Option (Int)
 | 0, _, _ => none
 | k + 1, x0, x14 => if x14 = true then (some (-1)) else ((prolepsisref03_in.f k x0 (([768, 879, 8203, 8207, 8400, 8447, 65024, 65039, 65056, 65071] : List Int))).bind fun t296 => (if t296 = true then (some 0) else ((prolepsisref03_in.f k x0 (([4352, 4447, 11904, 12350, 12353, 42191, 44032, 55203, 63744, 64255, 65072, 65135, 65280, 65376, 65504, 65510, 127744, 128591, 129280, 129535, 131072, 262141] : List Int))).bind fun t300 => (if t300 = true then (some 2) else (some 1)))))
def prolepsisref03_Of.f (k : Nat) (a0 : Int) : Option (Int) := if a0 < 32 then (prolepsisref03_Of.j0 k a0 true) else ((prolepsisref03_in.f k a0 (([127, 159] : List Int))).bind fun t291 => (if t291 = true then (prolepsisref03_Of.j0 k a0 true) else ((prolepsisref02_Scalar.f a0).bind fun t292 => (prolepsisref03_Of.j0 k a0 (!t292)))))
set_option maxHeartbeats 8000000 in
set_option maxRecDepth 100000 in
theorem prolepsisref03_Of.calls (k : Nat) (a0 : Int) (r : Int) (w : World) (h : prolepsisref03_Of.f k a0 = some r) :
 Calls Tryz.prog 105 #[.int .i64 a0] w fun e w' => e = .returned (.int .i64 r) ∧ Below w.heap.size w w' := by
 have HB := aS (Below.refl w.heap.size w)
 have H : (if a0 < 32 then (prolepsisref03_Of.j0 k a0 true) else ((prolepsisref03_in.f k a0 (([127, 159] : List Int))).bind fun t291 => (if t291 = true then (prolepsisref03_Of.j0 k a0 true) else ((prolepsisref02_Scalar.f a0).bind fun t292 => (prolepsisref03_Of.j0 k a0 (!t292)))))) = some r := h
 clear h
 have HC2 := aS H
 clear H
 go_enter Tryz.func105, Tryz.ntmps105
 go_upto_region 1 with (fail)
 go_cut [14] (fun v14 wc => ∃ (kq : Nat) (x14_1 : Bool), v14 = .bool x14_1 ∧ Aside0 (prolepsisref03_Of.j0 kq a0 x14_1 = some r) ∧ Aside0 (kq ≤ k) ∧ Aside0 (Below w.heap.size w wc))
 case first =>
  have H := HC2.out
  clear HC2
  by_cases c3 : a0 < 32
  ·rw [if_pos c3] at H
   have c3b0 : decide (a0 < 32) = true := decide_eq_true c3
   clear c3
   (first | rw [c3b0] | (simp only [i64_w, i32_w]; rw [c3b0]) | skip)
   have H' := aS H
   clear H
   go_wp2
   go_meet
   case rel => exact ⟨_, (true), fS, H', ⟨by first | omega | exact Nat.le_refl _⟩, ⟨bB⟩⟩
  ·rw [if_neg c3] at H
   have c3b0 : decide (a0 < 32) = false := decide_eq_false c3
   clear c3
   (first | rw [c3b0] | (simp only [i64_w, i32_w]; rw [c3b0]) | skip)
   obtain ⟨y288, hy288⟩ : ∃ y_ : List Int, y_ = (([127, 159] : List Int)) := ⟨_, rfl⟩
   replace H : ((prolepsisref03_in.f k a0 y288).bind fun t291 => (if t291 = true then (prolepsisref03_Of.j0 k a0 true) else ((prolepsisref02_Scalar.f a0).bind fun t292 => (prolepsisref03_Of.j0 k a0 (!t292))))) = some r := rq hy288 H
   have Ny288 := aS hy288
   clear hy288
   replace H := Option.bind_eq_some_iff.mp H
   obtain ⟨t291, A40, H⟩ := H
   try dsimp only at H
   have A4 := aS A40
   clear A40
   by_cases c5 : t291 = true
   ·subst c5
    have H1 : (prolepsisref03_Of.j0 k a0 true) = some r := by rw [if_pos rfl] at H; exact H
    clear H
    have H := H1
    clear H1
    have H' := aS H
    clear H
    go_wp2_with (first | ((with_reducible refine gate_dst (N := 7) rfl ?_); (try (refine gate_guard (by rfl) ?_; dsimp only)); refine Kd.R_lit (Kd.int .i64) _ 3 ?hg (N := 7) ?hd (xs := ([127, 159] : List Int)) (inner := [.int .i64 127, .int .i64 159]) (ok := fun _ => True) (okp := fun _ => True) ?hr ?hp (fun _ hk => hk) trivial (Below.refl _ _) (Nat.le_refl _) (by simp) ?_; (case hd => rfl); (case hg => rfl); (case hr => first | (go_simp; done) | (go_simp; rfl)); (case hp => exact (Reps.one (show Kd.M (Kd.int .i64) _ _ _ 127 [.int .i64 127] from rfl) (Reps.one (show Kd.M (Kd.int .i64) _ _ _ 159 [.int .i64 159] from rfl) (Reps.none _ _)))); intro v289 w6 ho7 hb hg_ hnew_; clear hg_ hnew_; (first | rw [← Ny288.out] at ho7 | (simp only [Int.reduceToNat] at ho7; rw [← Ny288.out] at ho7)); have HO290 := aS (Kd.R_lower ho7 (below_size bB)); replace HB := aS (below_step bB hb); clear hb ho7; obtain ⟨Ao8, co8, eo8⟩ := Kd.R_slice HO290.out; subst eo8) | (go_at_call 107; (with_reducible refine (prolepsisref03_in.calls k a0 _ _ y288 true _ ?side1 ?side2 A4.out).mono ?_); (case side1 => exact rC (Kd.R_reads' HO290.out)); (case side2 => exact (Kd.R_reads' HO290.out).2.1); rintro e w' ⟨rfl, ⟨nd, rfl⟩⟩))
    go_meet
    case rel => exact ⟨_, (true), fS, H', ⟨by first | omega | exact Nat.le_refl _⟩, ⟨bB⟩⟩
   ·replace c5 := Bool.eq_false_iff.mpr c5
    subst c5
    have H1 : ((prolepsisref02_Scalar.f a0).bind fun t292 => (prolepsisref03_Of.j0 k a0 (!t292))) = some r := by rw [if_neg (show ¬ (false = true) by decide)] at H; exact H
    clear H
    have H := H1
    clear H1
    replace H := Option.bind_eq_some_iff.mp H
    obtain ⟨t292, A90, H⟩ := H
    try dsimp only at H
    have A9 := aS A90
    clear A90
    have H' := aS H
    clear H
    go_wp2_with (first | ((with_reducible refine gate_dst (N := 7) rfl ?_); (try (refine gate_guard (by rfl) ?_; dsimp only)); refine Kd.R_lit (Kd.int .i64) _ 3 ?hg (N := 7) ?hd (xs := ([127, 159] : List Int)) (inner := [.int .i64 127, .int .i64 159]) (ok := fun _ => True) (okp := fun _ => True) ?hr ?hp (fun _ hk => hk) trivial (Below.refl _ _) (Nat.le_refl _) (by simp) ?_; (case hd => rfl); (case hg => rfl); (case hr => first | (go_simp; done) | (go_simp; rfl)); (case hp => exact (Reps.one (show Kd.M (Kd.int .i64) _ _ _ 127 [.int .i64 127] from rfl) (Reps.one (show Kd.M (Kd.int .i64) _ _ _ 159 [.int .i64 159] from rfl) (Reps.none _ _)))); intro v289 w10 ho11 hb hg_ hnew_; clear hg_ hnew_; (first | rw [← Ny288.out] at ho11 | (simp only [Int.reduceToNat] at ho11; rw [← Ny288.out] at ho11)); have HO290 := aS (Kd.R_lower ho11 (below_size bB)); replace HB := aS (below_step bB hb); clear hb ho11; obtain ⟨Ao12, co12, eo12⟩ := Kd.R_slice HO290.out; subst eo12) | (go_at_call 107; (with_reducible refine (prolepsisref03_in.calls k a0 _ _ y288 false _ ?side1 ?side2 A4.out).mono ?_); (case side1 => exact rC (Kd.R_reads' HO290.out)); (case side2 => exact (Kd.R_reads' HO290.out).2.1); rintro e w' ⟨rfl, ⟨nd, rfl⟩⟩) | (go_at_call 108; (with_reducible refine (prolepsisref02_Scalar.calls a0 t292 _ A9.out).mono ?_); rintro e w' ⟨rfl, ⟨nd, rfl⟩⟩))
    go_meet
    case rel => exact ⟨_, (!t292), fS, H', ⟨by first | omega | exact Nat.le_refl _⟩, ⟨bB⟩⟩
 case rest =>
  clear HC2
  try clear c1
  try clear p2
  try clear c3
  try clear c3b0
  try clear c5
  try clear c10
  obtain ⟨kq, x14_1, rfl, HA, HJ1, HB⟩ := hcut
  cases kq with
  | zero => exact absurd HA.out (by simp [prolepsisref03_Of.j0])
  | succ kj1 =>
   have H := HA.out
   clear HA
   simp only [prolepsisref03_Of.j0] at H
   by_cases c13 : x14_1 = true
   ·subst c13
    have H1 : (some (-1)) = some r := by rw [if_pos rfl] at H; exact H
    clear H
    have H := H1
    clear H1
    obtain rfl := Option.some.inj H
    go_wp2
    go_ret
    exact ⟨by first | rfl | (simp <;> rfl) | (simp [*] <;> rfl), bB⟩
   ·replace c13 := Bool.eq_false_iff.mpr c13
    subst c13
    have H1 : ((prolepsisref03_in.f kj1 a0 (([768, 879, 8203, 8207, 8400, 8447, 65024, 65039, 65056, 65071] : List Int))).bind fun t296 => (if t296 = true then (some 0) else ((prolepsisref03_in.f kj1 a0 (([4352, 4447, 11904, 12350, 12353, 42191, 44032, 55203, 63744, 64255, 65072, 65135, 65280, 65376, 65504, 65510, 127744, 128591, 129280, 129535, 131072, 262141] : List Int))).bind fun t300 => (if t300 = true then (some 2) else (some 1))))) = some r := by rw [if_neg (show ¬ (false = true) by decide)] at H; exact H
    clear H
    have H := H1
    clear H1
    obtain ⟨y293, hy293⟩ : ∃ y_ : List Int, y_ = (([768, 879, 8203, 8207, 8400, 8447, 65024, 65039, 65056, 65071] : List Int)) := ⟨_, rfl⟩
    replace H : ((prolepsisref03_in.f kj1 a0 y293).bind fun t296 => (if t296 = true then (some 0) else ((prolepsisref03_in.f kj1 a0 (([4352, 4447, 11904, 12350, 12353, 42191, 44032, 55203, 63744, 64255, 65072, 65135, 65280, 65376, 65504, 65510, 127744, 128591, 129280, 129535, 131072, 262141] : List Int))).bind fun t300 => (if t300 = true then (some 2) else (some 1))))) = some r := rq hy293 H
    have Ny293 := aS hy293
    clear hy293
    replace H := Option.bind_eq_some_iff.mp H
    obtain ⟨t296, A140, H⟩ := H
    try dsimp only at H
    have A14 := aS A140
    clear A140
    by_cases c15 : t296 = true
    ·subst c15
     have H1 : (some 0) = some r := by rw [if_pos rfl] at H; exact H
     clear H
     have H := H1
     clear H1
     obtain rfl := Option.some.inj H
     go_wp2_with (first | ((with_reducible refine gate_dst (N := 16) rfl ?_); (try (refine gate_guard (by rfl) ?_; dsimp only)); refine Kd.R_lit (Kd.int .i64) _ 3 ?hg (N := 16) ?hd (xs := ([768, 879, 8203, 8207, 8400, 8447, 65024, 65039, 65056, 65071] : List Int)) (inner := [.int .i64 768, .int .i64 879, .int .i64 8203, .int .i64 8207, .int .i64 8400, .int .i64 8447, .int .i64 65024, .int .i64 65039, .int .i64 65056, .int .i64 65071]) (ok := fun _ => True) (okp := fun _ => True) ?hr ?hp (fun _ hk => hk) trivial (Below.refl _ _) (Nat.le_refl _) (by simp) ?_; (case hd => rfl); (case hg => rfl); (case hr => first | (go_simp; done) | (go_simp; rfl)); (case hp => exact (Reps.one (show Kd.M (Kd.int .i64) _ _ _ 768 [.int .i64 768] from rfl) (Reps.one (show Kd.M (Kd.int .i64) _ _ _ 879 [.int .i64 879] from rfl) (Reps.one (show Kd.M (Kd.int .i64) _ _ _ 8203 [.int .i64 8203] from rfl) (Reps.one (show Kd.M (Kd.int .i64) _ _ _ 8207 [.int .i64 8207] from rfl) (Reps.one (show Kd.M (Kd.int .i64) _ _ _ 8400 [.int .i64 8400] from rfl) (Reps.one (show Kd.M (Kd.int .i64) _ _ _ 8447 [.int .i64 8447] from rfl) (Reps.one (show Kd.M (Kd.int .i64) _ _ _ 65024 [.int .i64 65024] from rfl) (Reps.one (show Kd.M (Kd.int .i64) _ _ _ 65039 [.int .i64 65039] from rfl) (Reps.one (show Kd.M (Kd.int .i64) _ _ _ 65056 [.int .i64 65056] from rfl) (Reps.one (show Kd.M (Kd.int .i64) _ _ _ 65071 [.int .i64 65071] from rfl) (Reps.none _ _)))))))))))); intro v294 w16 ho17 hb hg_ hnew_; clear hg_ hnew_; (first | rw [← Ny293.out] at ho17 | (simp only [Int.reduceToNat] at ho17; rw [← Ny293.out] at ho17)); have HO295 := aS (Kd.R_lower ho17 (below_size bB)); replace HB := aS (below_step bB hb); clear hb ho17; obtain ⟨Ao18, co18, eo18⟩ := Kd.R_slice HO295.out; subst eo18) | (refine gL 107 17 Tryz.func107 #[.int .i64 a0, .slice Ao18 y293.length co18] ?_; (with_reducible refine (prolepsisref03_in.calls kj1 a0 _ _ y293 true _ ?side1 ?side2 A14.out).mono ?_); (case side1 => exact rC (Kd.R_reads' HO295.out)); (case side2 => exact (Kd.R_reads' HO295.out).2.1); rintro e w' ⟨rfl, ⟨nd, rfl⟩⟩; refine ⟨_, rfl, ?_⟩))
     go_ret
     exact ⟨by first | rfl | (simp <;> rfl) | (simp [*] <;> rfl), bB⟩
    ·replace c15 := Bool.eq_false_iff.mpr c15
     subst c15
     have H1 : ((prolepsisref03_in.f kj1 a0 (([4352, 4447, 11904, 12350, 12353, 42191, 44032, 55203, 63744, 64255, 65072, 65135, 65280, 65376, 65504, 65510, 127744, 128591, 129280, 129535, 131072, 262141] : List Int))).bind fun t300 => (if t300 = true then (some 2) else (some 1))) = some r := by rw [if_neg (show ¬ (false = true) by decide)] at H; exact H
     clear H
     have H := H1
     clear H1
     obtain ⟨y297, hy297⟩ : ∃ y_ : List Int, y_ = (([4352, 4447, 11904, 12350, 12353, 42191, 44032, 55203, 63744, 64255, 65072, 65135, 65280, 65376, 65504, 65510, 127744, 128591, 129280, 129535, 131072, 262141] : List Int)) := ⟨_, rfl⟩
     replace H : ((prolepsisref03_in.f kj1 a0 y297).bind fun t300 => (if t300 = true then (some 2) else (some 1))) = some r := rq hy297 H
     have Ny297 := aS hy297
     clear hy297
     replace H := Option.bind_eq_some_iff.mp H
     obtain ⟨t300, A190, H⟩ := H
     try dsimp only at H
     have A19 := aS A190
     clear A190
     by_cases c20 : t300 = true
     ·subst c20
      have H1 : (some 2) = some r := by rw [if_pos rfl] at H; exact H
      clear H
      have H := H1
      clear H1
      obtain rfl := Option.some.inj H
      go_wp2_with (first | ((with_reducible refine gate_dst (N := 16) rfl ?_); (try (refine gate_guard (by rfl) ?_; dsimp only)); refine Kd.R_lit (Kd.int .i64) _ 3 ?hg (N := 16) ?hd (xs := ([768, 879, 8203, 8207, 8400, 8447, 65024, 65039, 65056, 65071] : List Int)) (inner := [.int .i64 768, .int .i64 879, .int .i64 8203, .int .i64 8207, .int .i64 8400, .int .i64 8447, .int .i64 65024, .int .i64 65039, .int .i64 65056, .int .i64 65071]) (ok := fun _ => True) (okp := fun _ => True) ?hr ?hp (fun _ hk => hk) trivial (Below.refl _ _) (Nat.le_refl _) (by simp) ?_; (case hd => rfl); (case hg => rfl); (case hr => first | (go_simp; done) | (go_simp; rfl)); (case hp => exact (Reps.one (show Kd.M (Kd.int .i64) _ _ _ 768 [.int .i64 768] from rfl) (Reps.one (show Kd.M (Kd.int .i64) _ _ _ 879 [.int .i64 879] from rfl) (Reps.one (show Kd.M (Kd.int .i64) _ _ _ 8203 [.int .i64 8203] from rfl) (Reps.one (show Kd.M (Kd.int .i64) _ _ _ 8207 [.int .i64 8207] from rfl) (Reps.one (show Kd.M (Kd.int .i64) _ _ _ 8400 [.int .i64 8400] from rfl) (Reps.one (show Kd.M (Kd.int .i64) _ _ _ 8447 [.int .i64 8447] from rfl) (Reps.one (show Kd.M (Kd.int .i64) _ _ _ 65024 [.int .i64 65024] from rfl) (Reps.one (show Kd.M (Kd.int .i64) _ _ _ 65039 [.int .i64 65039] from rfl) (Reps.one (show Kd.M (Kd.int .i64) _ _ _ 65056 [.int .i64 65056] from rfl) (Reps.one (show Kd.M (Kd.int .i64) _ _ _ 65071 [.int .i64 65071] from rfl) (Reps.none _ _)))))))))))); intro v294 w21 ho22 hb hg_ hnew_; clear hg_ hnew_; (first | rw [← Ny293.out] at ho22 | (simp only [Int.reduceToNat] at ho22; rw [← Ny293.out] at ho22)); have HO295 := aS (Kd.R_lower ho22 (below_size bB)); replace HB := aS (below_step bB hb); clear hb ho22; obtain ⟨Ao23, co23, eo23⟩ := Kd.R_slice HO295.out; subst eo23) | (refine gL 107 17 Tryz.func107 #[.int .i64 a0, .slice Ao23 y293.length co23] ?_; (with_reducible refine (prolepsisref03_in.calls kj1 a0 _ _ y293 false _ ?side1 ?side2 A14.out).mono ?_); (case side1 => exact rC (Kd.R_reads' HO295.out)); (case side2 => exact (Kd.R_reads' HO295.out).2.1); rintro e w' ⟨rfl, ⟨nd, rfl⟩⟩; refine ⟨_, rfl, ?_⟩) | ((with_reducible refine gate_dst (N := 19) rfl ?_); (try (refine gate_guard (by rfl) ?_; dsimp only)); refine Kd.R_lit (Kd.int .i64) _ 3 ?hg (N := 19) ?hd (xs := ([4352, 4447, 11904, 12350, 12353, 42191, 44032, 55203, 63744, 64255, 65072, 65135, 65280, 65376, 65504, 65510, 127744, 128591, 129280, 129535, 131072, 262141] : List Int)) (inner := [.int .i64 4352, .int .i64 4447, .int .i64 11904, .int .i64 12350, .int .i64 12353, .int .i64 42191, .int .i64 44032, .int .i64 55203, .int .i64 63744, .int .i64 64255, .int .i64 65072, .int .i64 65135, .int .i64 65280, .int .i64 65376, .int .i64 65504, .int .i64 65510, .int .i64 127744, .int .i64 128591, .int .i64 129280, .int .i64 129535, .int .i64 131072, .int .i64 262141]) (ok := fun _ => True) (okp := fun _ => True) ?hr ?hp (fun _ hk => hk) trivial (Below.refl _ _) (Nat.le_refl _) (by simp) ?_; (case hd => rfl); (case hg => rfl); (case hr => first | (go_simp; done) | (go_simp; rfl)); (case hp => exact (Reps.one (show Kd.M (Kd.int .i64) _ _ _ 4352 [.int .i64 4352] from rfl) (Reps.one (show Kd.M (Kd.int .i64) _ _ _ 4447 [.int .i64 4447] from rfl) (Reps.one (show Kd.M (Kd.int .i64) _ _ _ 11904 [.int .i64 11904] from rfl) (Reps.one (show Kd.M (Kd.int .i64) _ _ _ 12350 [.int .i64 12350] from rfl) (Reps.one (show Kd.M (Kd.int .i64) _ _ _ 12353 [.int .i64 12353] from rfl) (Reps.one (show Kd.M (Kd.int .i64) _ _ _ 42191 [.int .i64 42191] from rfl) (Reps.one (show Kd.M (Kd.int .i64) _ _ _ 44032 [.int .i64 44032] from rfl) (Reps.one (show Kd.M (Kd.int .i64) _ _ _ 55203 [.int .i64 55203] from rfl) (Reps.one (show Kd.M (Kd.int .i64) _ _ _ 63744 [.int .i64 63744] from rfl) (Reps.one (show Kd.M (Kd.int .i64) _ _ _ 64255 [.int .i64 64255] from rfl) (Reps.one (show Kd.M (Kd.int .i64) _ _ _ 65072 [.int .i64 65072] from rfl) (Reps.one (show Kd.M (Kd.int .i64) _ _ _ 65135 [.int .i64 65135] from rfl) (Reps.one (show Kd.M (Kd.int .i64) _ _ _ 65280 [.int .i64 65280] from rfl) (Reps.one (show Kd.M (Kd.int .i64) _ _ _ 65376 [.int .i64 65376] from rfl) (Reps.one (show Kd.M (Kd.int .i64) _ _ _ 65504 [.int .i64 65504] from rfl) (Reps.one (show Kd.M (Kd.int .i64) _ _ _ 65510 [.int .i64 65510] from rfl) (Reps.one (show Kd.M (Kd.int .i64) _ _ _ 127744 [.int .i64 127744] from rfl) (Reps.one (show Kd.M (Kd.int .i64) _ _ _ 128591 [.int .i64 128591] from rfl) (Reps.one (show Kd.M (Kd.int .i64) _ _ _ 129280 [.int .i64 129280] from rfl) (Reps.one (show Kd.M (Kd.int .i64) _ _ _ 129535 [.int .i64 129535] from rfl) (Reps.one (show Kd.M (Kd.int .i64) _ _ _ 131072 [.int .i64 131072] from rfl) (Reps.one (show Kd.M (Kd.int .i64) _ _ _ 262141 [.int .i64 262141] from rfl) (Reps.none _ _)))))))))))))))))))))))); intro v298 w24 ho25 hb hg_ hnew_; clear hg_ hnew_; (first | rw [← Ny297.out] at ho25 | (simp only [Int.reduceToNat] at ho25; rw [← Ny297.out] at ho25)); have HO299 := aS (Kd.R_lower (Kd.R_new' ho25 (Kd.R_lt (rr HO295))) (below_size bB)); replace HO295 := aS (Kd.R_elder' (rr HO295) (Kd.R_base ho25) hb); replace HB := aS (below_step bB hb); clear hb ho25; obtain ⟨Ao26, co26, eo26⟩ := Kd.R_slice HO299.out; subst eo26) | (refine gL 107 20 Tryz.func107 #[.int .i64 a0, .slice Ao26 y297.length co26] ?_; (with_reducible refine (prolepsisref03_in.calls kj1 a0 _ _ y297 true _ ?side1 ?side2 A19.out).mono ?_); (case side1 => exact rC (Kd.R_reads' HO299.out)); (case side2 => exact (Kd.R_reads' HO299.out).2.1); rintro e w' ⟨rfl, ⟨nd, rfl⟩⟩; refine ⟨_, rfl, ?_⟩))
      go_ret
      exact ⟨by first | rfl | (simp <;> rfl) | (simp [*] <;> rfl), bB⟩
     ·replace c20 := Bool.eq_false_iff.mpr c20
      subst c20
      have H1 : (some 1) = some r := by rw [if_neg (show ¬ (false = true) by decide)] at H; exact H
      clear H
      have H := H1
      clear H1
      obtain rfl := Option.some.inj H
      go_wp2_with (first | ((with_reducible refine gate_dst (N := 16) rfl ?_); (try (refine gate_guard (by rfl) ?_; dsimp only)); refine Kd.R_lit (Kd.int .i64) _ 3 ?hg (N := 16) ?hd (xs := ([768, 879, 8203, 8207, 8400, 8447, 65024, 65039, 65056, 65071] : List Int)) (inner := [.int .i64 768, .int .i64 879, .int .i64 8203, .int .i64 8207, .int .i64 8400, .int .i64 8447, .int .i64 65024, .int .i64 65039, .int .i64 65056, .int .i64 65071]) (ok := fun _ => True) (okp := fun _ => True) ?hr ?hp (fun _ hk => hk) trivial (Below.refl _ _) (Nat.le_refl _) (by simp) ?_; (case hd => rfl); (case hg => rfl); (case hr => first | (go_simp; done) | (go_simp; rfl)); (case hp => exact (Reps.one (show Kd.M (Kd.int .i64) _ _ _ 768 [.int .i64 768] from rfl) (Reps.one (show Kd.M (Kd.int .i64) _ _ _ 879 [.int .i64 879] from rfl) (Reps.one (show Kd.M (Kd.int .i64) _ _ _ 8203 [.int .i64 8203] from rfl) (Reps.one (show Kd.M (Kd.int .i64) _ _ _ 8207 [.int .i64 8207] from rfl) (Reps.one (show Kd.M (Kd.int .i64) _ _ _ 8400 [.int .i64 8400] from rfl) (Reps.one (show Kd.M (Kd.int .i64) _ _ _ 8447 [.int .i64 8447] from rfl) (Reps.one (show Kd.M (Kd.int .i64) _ _ _ 65024 [.int .i64 65024] from rfl) (Reps.one (show Kd.M (Kd.int .i64) _ _ _ 65039 [.int .i64 65039] from rfl) (Reps.one (show Kd.M (Kd.int .i64) _ _ _ 65056 [.int .i64 65056] from rfl) (Reps.one (show Kd.M (Kd.int .i64) _ _ _ 65071 [.int .i64 65071] from rfl) (Reps.none _ _)))))))))))); intro v294 w27 ho28 hb hg_ hnew_; clear hg_ hnew_; (first | rw [← Ny293.out] at ho28 | (simp only [Int.reduceToNat] at ho28; rw [← Ny293.out] at ho28)); have HO295 := aS (Kd.R_lower ho28 (below_size bB)); replace HB := aS (below_step bB hb); clear hb ho28; obtain ⟨Ao29, co29, eo29⟩ := Kd.R_slice HO295.out; subst eo29) | (refine gL 107 17 Tryz.func107 #[.int .i64 a0, .slice Ao29 y293.length co29] ?_; (with_reducible refine (prolepsisref03_in.calls kj1 a0 _ _ y293 false _ ?side1 ?side2 A14.out).mono ?_); (case side1 => exact rC (Kd.R_reads' HO295.out)); (case side2 => exact (Kd.R_reads' HO295.out).2.1); rintro e w' ⟨rfl, ⟨nd, rfl⟩⟩; refine ⟨_, rfl, ?_⟩) | ((with_reducible refine gate_dst (N := 19) rfl ?_); (try (refine gate_guard (by rfl) ?_; dsimp only)); refine Kd.R_lit (Kd.int .i64) _ 3 ?hg (N := 19) ?hd (xs := ([4352, 4447, 11904, 12350, 12353, 42191, 44032, 55203, 63744, 64255, 65072, 65135, 65280, 65376, 65504, 65510, 127744, 128591, 129280, 129535, 131072, 262141] : List Int)) (inner := [.int .i64 4352, .int .i64 4447, .int .i64 11904, .int .i64 12350, .int .i64 12353, .int .i64 42191, .int .i64 44032, .int .i64 55203, .int .i64 63744, .int .i64 64255, .int .i64 65072, .int .i64 65135, .int .i64 65280, .int .i64 65376, .int .i64 65504, .int .i64 65510, .int .i64 127744, .int .i64 128591, .int .i64 129280, .int .i64 129535, .int .i64 131072, .int .i64 262141]) (ok := fun _ => True) (okp := fun _ => True) ?hr ?hp (fun _ hk => hk) trivial (Below.refl _ _) (Nat.le_refl _) (by simp) ?_; (case hd => rfl); (case hg => rfl); (case hr => first | (go_simp; done) | (go_simp; rfl)); (case hp => exact (Reps.one (show Kd.M (Kd.int .i64) _ _ _ 4352 [.int .i64 4352] from rfl) (Reps.one (show Kd.M (Kd.int .i64) _ _ _ 4447 [.int .i64 4447] from rfl) (Reps.one (show Kd.M (Kd.int .i64) _ _ _ 11904 [.int .i64 11904] from rfl) (Reps.one (show Kd.M (Kd.int .i64) _ _ _ 12350 [.int .i64 12350] from rfl) (Reps.one (show Kd.M (Kd.int .i64) _ _ _ 12353 [.int .i64 12353] from rfl) (Reps.one (show Kd.M (Kd.int .i64) _ _ _ 42191 [.int .i64 42191] from rfl) (Reps.one (show Kd.M (Kd.int .i64) _ _ _ 44032 [.int .i64 44032] from rfl) (Reps.one (show Kd.M (Kd.int .i64) _ _ _ 55203 [.int .i64 55203] from rfl) (Reps.one (show Kd.M (Kd.int .i64) _ _ _ 63744 [.int .i64 63744] from rfl) (Reps.one (show Kd.M (Kd.int .i64) _ _ _ 64255 [.int .i64 64255] from rfl) (Reps.one (show Kd.M (Kd.int .i64) _ _ _ 65072 [.int .i64 65072] from rfl) (Reps.one (show Kd.M (Kd.int .i64) _ _ _ 65135 [.int .i64 65135] from rfl) (Reps.one (show Kd.M (Kd.int .i64) _ _ _ 65280 [.int .i64 65280] from rfl) (Reps.one (show Kd.M (Kd.int .i64) _ _ _ 65376 [.int .i64 65376] from rfl) (Reps.one (show Kd.M (Kd.int .i64) _ _ _ 65504 [.int .i64 65504] from rfl) (Reps.one (show Kd.M (Kd.int .i64) _ _ _ 65510 [.int .i64 65510] from rfl) (Reps.one (show Kd.M (Kd.int .i64) _ _ _ 127744 [.int .i64 127744] from rfl) (Reps.one (show Kd.M (Kd.int .i64) _ _ _ 128591 [.int .i64 128591] from rfl) (Reps.one (show Kd.M (Kd.int .i64) _ _ _ 129280 [.int .i64 129280] from rfl) (Reps.one (show Kd.M (Kd.int .i64) _ _ _ 129535 [.int .i64 129535] from rfl) (Reps.one (show Kd.M (Kd.int .i64) _ _ _ 131072 [.int .i64 131072] from rfl) (Reps.one (show Kd.M (Kd.int .i64) _ _ _ 262141 [.int .i64 262141] from rfl) (Reps.none _ _)))))))))))))))))))))))); intro v298 w30 ho31 hb hg_ hnew_; clear hg_ hnew_; (first | rw [← Ny297.out] at ho31 | (simp only [Int.reduceToNat] at ho31; rw [← Ny297.out] at ho31)); have HO299 := aS (Kd.R_lower (Kd.R_new' ho31 (Kd.R_lt (rr HO295))) (below_size bB)); replace HO295 := aS (Kd.R_elder' (rr HO295) (Kd.R_base ho31) hb); replace HB := aS (below_step bB hb); clear hb ho31; obtain ⟨Ao32, co32, eo32⟩ := Kd.R_slice HO299.out; subst eo32) | (refine gL 107 20 Tryz.func107 #[.int .i64 a0, .slice Ao32 y297.length co32] ?_; (with_reducible refine (prolepsisref03_in.calls kj1 a0 _ _ y297 false _ ?side1 ?side2 A19.out).mono ?_); (case side1 => exact rC (Kd.R_reads' HO299.out)); (case side2 => exact (Kd.R_reads' HO299.out).2.1); rintro e w' ⟨rfl, ⟨nd, rfl⟩⟩; refine ⟨_, rfl, ?_⟩))
      go_ret
      exact ⟨by first | rfl | (simp <;> rfl) | (simp [*] <;> rfl), bB⟩
end Go.Proofs.YtblcmcdifgclcaaGreat.PGridPlays
