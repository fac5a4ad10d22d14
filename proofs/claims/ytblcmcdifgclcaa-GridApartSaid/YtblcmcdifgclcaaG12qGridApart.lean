/- GridApart: what its proof leads to. No condition. -/
import Derived.Test.YtblcmcdifgclcaaG8qGridApart
import Derived.Test.YtblcmcdifgclcaaG4qGridApart
namespace Go.Proofs.Ytblcmcdifgclcaa.PGridSame
open Go.RowKit Go.Proofs.YtblcmcdifgclcaaW.PrintWords Go.Proofs.YtblcmcdifgclcaaW.PrintLast Go.Proofs.YtblcmcdifgclcaaW.PrintMore
attribute [local go_sem] isSome_setCell max2_int min2_int max_two min_two
set_option linter.unusedVariables false
set_option linter.unusedSimpArgs false
attribute [local go_sem high] eqA26
def prolepsisref05_Blank.f (a0_0 : Int) (a0_1 : Int) (a0_2 : Int) : Option (Int × Int × Int × Int × Int × Int × Int) := some (32, 0, 0, 1, a0_0, a0_1, a0_2)
set_option maxHeartbeats 8000000 in
set_option maxRecDepth 100000 in
theorem prolepsisref05_Blank.calls (a0_0 : Int) (a0_1 : Int) (a0_2 : Int) (r1 : Int) (r2 : Int) (r3 : Int) (r4 : Int) (r5 : Int) (r6 : Int) (r7 : Int) (w : World) (h : prolepsisref05_Blank.f a0_0 a0_1 a0_2 = some (r1, r2, r3, r4, r5, r6, r7)) :
 Calls Try.prog 22 #[.agg #[.int .u8 a0_0, .int .u8 a0_1, .int .u8 a0_2]] w fun e w' => e = .returned (.agg #[.int .i64 r1, .int .i64 r2, .int .i64 r3, .int .u8 r4, .int .u8 r5, .int .u8 r6, .int .u8 r7]) ∧ Below w.heap.size w w' := by
 have hu30 := Try.underlying30
 have hu32 := Try.underlying32
 have HB := aS (Below.refl w.heap.size w)
 have H : (some (32, 0, 0, 1, a0_0, a0_1, a0_2)) = some (r1, r2, r3, r4, r5, r6, r7) := h
 clear h
 simp only [Option.some.injEq, Prod.mk.injEq] at H
 obtain ⟨rfl, rfl, rfl, rfl, rfl, rfl, rfl⟩ := H
 go_enter Try.func22, Try.ntmps22
 go_wp2_with (first | (refine bx 1 #[.int .u8 a0_0, .int .u8 a0_1, .int .u8 a0_2] 30 ?_; intro gb261 hg w2 hbox hb; have BK261 := aS (hbox); have GW261 := aS (gw HB hg); have GE261 := aS (gw HB hg); replace HB := aS (below_step bB hb); clear hb hbox hg) | (refine bx 2 #[.int .i64 0, .int .i64 0, .int .i64 0, .int .u8 0, .int .u8 0, .int .u8 0, .int .u8 0] 32 ?_; intro gb262 hg w3 hbox hb; have BK262 := aS (hbox); have GW262 := aS (gw HB hg); have GE262 := aS (gw HB hg); replace HB := aS (below_step bS hb); have NB261_262 := aS ((by rw [hg]; exact Nat.ne_of_lt (blk_lt (kb BK261)) : gb261 ≠ gb262)); have NB262_261 := aS ((by rw [hg]; exact Nat.ne_of_gt (blk_lt (kb BK261)) : gb262 ≠ gb261)); replace BK261 := aS (blk_below (kb BK261) hb); clear hb hbox hg; have hnb4 := NB261_262.out; have hnc4 := NB262_261.out; have hz5 := cel3 BK261.out; have hz6 := cel7 BK262.out))
 refine bodyPost_ret (results_cell_row rfl _ _ gb262 32 #[.int .i64 32, .int .i64 0, .int .i64 0, .int .u8 1, .int .u8 a0_0, .int .u8 a0_1, .int .u8 a0_2] (0, 0) _ rfl (kp BK262) Try.underlying32 rfl (by kernel_rfl)) rfl ?_
 exact ⟨by first | rfl | (simp <;> rfl) | (simp [*] <;> rfl), bS⟩
def prolepsisref06_length.f (a0 : Int) : Option (Int) := if a0 < 0 then (some 0) else (if a0 > 512 then (some 512) else (some a0))
set_option maxHeartbeats 8000000 in
set_option maxRecDepth 100000 in
theorem prolepsisref06_length.calls (a0 : Int) (r : Int) (w : World) (h : prolepsisref06_length.f a0 = some r) :
 Calls Try.prog 100 #[.int .i64 a0] w fun e w' => e = .returned (.int .i64 r) ∧ Drawn0 w w' := by
 have H : (if a0 < 0 then (some 0) else (if a0 > 512 then (some 512) else (some a0))) = some r := h
 clear h
 by_cases c2 : a0 < 0
 ·rw [if_pos c2] at H
  have c2b0 : decide (a0 < 0) = true := decide_eq_true c2
  clear c2
  obtain rfl := Option.some.inj H
  go_enter Try.func100, Try.ntmps100
  go_wp2
  go_ret
  exact ⟨by first | rfl | (simp; done) | (simp [*]; done), by repeat (first | exact Drawn0.refl _ | apply Drawn0.step)⟩
 ·rw [if_neg c2] at H
  have c2b0 : decide (a0 < 0) = false := decide_eq_false c2
  clear c2
  by_cases c3 : a0 > 512
  ·rw [if_pos c3] at H
   have c3b0 : decide (512 < a0) = true := decide_eq_true c3
   clear c3
   obtain rfl := Option.some.inj H
   go_enter Try.func100, Try.ntmps100
   go_wp2
   go_ret
   exact ⟨by first | rfl | (simp; done) | (simp [*]; done), by repeat (first | exact Drawn0.refl _ | apply Drawn0.step)⟩
  ·rw [if_neg c3] at H
   have c3b0 : decide (512 < a0) = false := decide_eq_false c3
   clear c3
   obtain rfl := Option.some.inj H
   go_enter Try.func100, Try.ntmps100
   go_wp2
   go_ret
   exact ⟨by first | rfl | (simp; done) | (simp [*]; done), by repeat (first | exact Drawn0.refl _ | apply Drawn0.step)⟩
def prolepsisref06_New.l0 : Nat → Int → List (S32) → Int → Option ((List (S32)))
 | 0, _, _, _ => none
 | k + 1, x0, x3, x4 => (prolepsisref06_length.f x0).bind fun t263 => (if x4 < t263 then ((prolepsisref05_Blank.f 0 0 0).bind fun bt264 => (if x3.length < 4398046511104 then (prolepsisref06_New.l0 k x0 (x3 ++ [(⟨bt264.1, (⟨bt264.2.1, bt264.2.2.1⟩ : S29), bt264.2.2.2.1, (⟨bt264.2.2.2.2.1, bt264.2.2.2.2.2.1, bt264.2.2.2.2.2.2⟩ : S30)⟩ : S32)]) (wrap64 (x4 + 1))) else (none))) else (some x3))
def prolepsisref06_New.f (k : Nat) (a0 : Int) : Option ((List (S32))) := prolepsisref06_New.l0 k a0 ([] : List (S32)) 0
set_option maxHeartbeats 8000000 in
set_option maxRecDepth 100000 in
theorem prolepsisref06_New.calls (k : Nat) (a0 : Int) (r : List (S32)) (w : World) (h : prolepsisref06_New.f k a0 = some r) :
 Calls Try.prog 52 #[.int .i64 a0] w fun e w' => ∃ v0_ : Value, e = .returned (v0_) ∧ Kd.R k32 32 w' w.heap.size (fun _ => True) v0_ r ∧ Below w.heap.size w w' := by
 have hu30 := Try.underlying30
 have HB := aS (Below.refl w.heap.size w)
 have H : (prolepsisref06_New.l0 k a0 ([] : List (S32)) 0) = some r := h
 clear h
 have H' := aS H
 clear H
 go_enter Try.func52, Try.ntmps52
 go_wp2
 go_loopg [3, 4] k (fun kq v3 v4 w' => ∃ (x3_1 : List (S32)) (x4_1 : Int), v4 = .int .i64 x4_1 ∧ Aside0 (prolepsisref06_New.l0 kq a0 x3_1 x4_1 = some r) ∧ Aside0 (kq ≤ k) ∧ Aside0 (Kd.R k32 32 w' w.heap.size (fun _ => True) v3 x3_1) ∧ Aside0 (Below w.heap.size w w'))
 case atStart => exact ⟨(([] : List (S32))), (0), fS, H', ⟨Nat.le_refl _⟩, ⟨by first | exact Kd.R_nil _ _ _ _ _ | exact Kd.N_nil _ _ _ _ _ | exact Kd.V_nil _ _ _ _ _ | exact Kd.Q_nil _ _ _ _ _ | exact Kd.S_nil _ _ _ _ _⟩, ⟨bB⟩⟩
 case round =>
  clear H'
  obtain ⟨x3_1, x4_1, rfl, HA, HK1, HO_3, HB⟩ := hrel
  cases gk with
  | zero => exact absurd HA.out (by simp [prolepsisref06_New.l0])
  | succ k1 =>
   have H := HA.out
   clear HA
   simp only [prolepsisref06_New.l0] at H
   replace H := Option.bind_eq_some_iff.mp H
   obtain ⟨t263, A20, H⟩ := H
   try dsimp only at H
   have A2 := aS A20
   clear A20
   by_cases c3 : x4_1 < t263
   ·rw [if_pos c3] at H
    have c3b0 : decide (x4_1 < t263) = true := decide_eq_true c3
    clear c3
    replace H := Option.bind_eq_some_iff.mp H
    obtain ⟨⟨t264, t265, t266, t267, t268, t269, t270⟩, A40, H⟩ := H
    try dsimp only at H
    have A4 := aS A40
    clear A40
    obtain ⟨c5, H⟩ := ifS H
    have LMc5 := aS c5
    clear c5
    obtain ⟨y271, hy271⟩ : ∃ y_ : List (S32), y_ = (x3_1 ++ [(⟨t264, (⟨t265, t266⟩ : S29), t267, (⟨t268, t269, t270⟩ : S30)⟩ : S32)]) := ⟨_, rfl⟩
    replace H : (prolepsisref06_New.l0 k1 a0 y271 (wrap64 (x4_1 + 1))) = some r := rq hy271 H
    have Ny271 := aS hy271
    clear hy271
    have H' := aS H
    clear H
    go_wp2_with (first | (refine gL 100 7 Try.func100 #[.int .i64 a0] ?_; (with_reducible refine (prolepsisref06_length.calls a0 t263 _ A2.out).mono ?_); rintro e w' ⟨rfl, ⟨nd, rfl⟩⟩; refine ⟨_, rfl, ?_⟩) | (refine gL 22 13 Try.func22 #[.agg #[.int .u8 0, .int .u8 0, .int .u8 0]] ?_; (with_reducible refine (prolepsisref05_Blank.calls 0 0 0 t264 t265 t266 t267 t268 t269 t270 _ A4.out).mono ?_); rintro e w6 ⟨rfl, hb⟩; refine ⟨_, rfl, ?_⟩; replace HO_3 := aS (Kd.R_below (rr HO_3) hb); replace HB := aS (below_step bB hb); (try clear hb); (try clear hb2); (try clear hk); (try clear hi)) | ((with_reducible refine gate_builtin (b := .append) (xs := #[.tmp 11, .tmp 14]) rfl ?_); at_builtin; refine Kd.R_append k32 (w0 := w) w.heap.size rfl (.tmp 11) (.tmp 14) 67 32 (.agg #[(.int .i64 0), (.int .i64 0), (.int .i64 0), (.int .u8 0), (.int .u8 0), (.int .u8 0), (.int .u8 0)]) 32 rfl Try.underlying67 info32 rfl (by decide) (by omega) u3 x3_1 (⟨t264, (⟨t265, t266⟩ : S29), t267, (⟨t268, t269, t270⟩ : S30)⟩ : S32) [.int .i64 t264, .int .i64 t265, .int .i64 t266, .int .u8 t267, .int .u8 t268, .int .u8 t269, .int .u8 t270] (fun _ => True) (fun _ => False) rfl rfl ?aP (fun _ hk => hk.elim) ?aF ?aO ?aB ?aS ?aL ?_; (case aP => exact k32_mkM _ _ _ (⟨t264, (⟨t265, t266⟩ : S29), t267, (⟨t268, t269, t270⟩ : S30)⟩ : S32)); (case aB => exact bB); (case aF => exact (fun _ _ => trivial)); (case aO => exact (rr HO_3)); (case aS => exact (below_size bB)); (case aL => have := LMc5.out; omega); intro v272 w7 ho hb hg hat; rw [← Ny271.out] at ho; replace HB := aS (hb); have HO273 := aS (ho); clear HO_3; clear ho hb hg hat))
    go_roundg k1
    case measure => have := HK1.out; omega
    case rel => exact ⟨(y271), (wrap64 (x4_1 + 1)), fS, H', ⟨by have := HK1.out; omega⟩, ⟨rr HO273⟩, ⟨bB⟩⟩
   ·rw [if_neg c3] at H
    have c3b0 : decide (x4_1 < t263) = false := decide_eq_false c3
    clear c3
    obtain rfl := Option.some.inj H
    go_wp2_with (first | (refine gL 100 7 Try.func100 #[.int .i64 a0] ?_; (with_reducible refine (prolepsisref06_length.calls a0 t263 _ A2.out).mono ?_); rintro e w' ⟨rfl, ⟨nd, rfl⟩⟩; refine ⟨_, rfl, ?_⟩))
    go_ret
    exact ⟨_, by first | rfl | (simp <;> rfl) | (simp [*] <;> rfl), rr HO_3, bB⟩
def prolepsisref07_New.l0 : Nat → Int → Int → Int → List (List (S32)) → Int → Int → Option ((List (List (S32))) × Int × Int)
 | 0, _, _, _, _, _, _ => none
 | k + 1, x0, x1, x6, x276000, x276001, x276002 => if x6 < x0 then ((prolepsisref06_New.f k x1).bind fun t276 => (if x276000.length < 5864062014805 then (prolepsisref07_New.l0 k x0 x1 (wrap64 (x6 + 1)) (x276000 ++ [t276]) x276001 x276002) else (none))) else (some (x276000, x276001, x276002))
def prolepsisref07_New.f (k : Nat) (a0 : Int) (a1 : Int) : Option ((List (List (S32))) × Int × Int) := prolepsisref07_New.l0 k a0 a1 0 ([] : List (List (S32))) 0 0
def prolepsisref07_New.T5 : Bool × List (List Nat × List Nat) := (true, [([], []), ([0], [0]), ([], []), ([2], [2]), ([3], [3]), ([1, 4, 3], [1, 4]), ([0, 1, 2, 3, 4, 5], []), ([6, 5, 5, 0, 1, 2, 3, 4, 5], [5, 6])])
def prolepsisref07_New.B5 : List Nat := [0, 1, 0, 4, 12, 31, 63, 127]
theorem prolepsisref07_New.tab5 : rtab .any (opsOf Try.f78 5) = prolepsisref07_New.T5 := by kernel_rfl
theorem prolepsisref07_New.bits5 : waitsOk prolepsisref07_New.T5.2 prolepsisref07_New.B5 = true := by kernel_rfl
set_option maxHeartbeats 8000000 in
set_option maxRecDepth 100000 in
theorem prolepsisref07_New.calls (k : Nat) (a0 : Int) (a1 : Int) (r1 : List (List (S32))) (r2 : Int) (r3 : Int) (w : World) (h : prolepsisref07_New.f k a0 a1 = some (r1, r2, r3)) :
 Calls Try.prog 78 #[.int .i64 a0, .int .i64 a1] w fun e w' => ∃ v0_ : Value, e = .returned (.agg #[v0_, .int .i64 r2, .int .i64 r3]) ∧ Kd.S (Kd.slice 32 k32) 67 w' w.heap.size (fun _ => True) v0_ r1 ∧ Below w.heap.size w w' := by
 have hu108 := Try.underlying108
 have HB := aS (Below.refl w.heap.size w)
 have H : (prolepsisref07_New.l0 k a0 a1 0 ([] : List (List (S32))) 0 0) = some (r1, r2, r3) := h
 clear h
 have H' := aS H
 clear H
 go_enter Try.func78, Try.ntmps78
 go_wp2_with (first | (refine bx 4 #[.slice none 0 0, .int .i64 0, .int .i64 0] 108 ?_; intro gb274 hg w3 hbox hb; have BK274 := aS (hbox); have GW274 := aS (gw HB hg); have GE274 := aS (gw HB hg); replace HB := aS (below_step bB hb); clear hb hbox hg) | (refine bx 5 #[.slice none 0 0, .int .i64 0, .int .i64 0] 108 ?_; intro gb275 hg w4 hbox hb; have BK275 := aS (hbox); have GW275 := aS (gw HB hg); have GE275 := aS (gw HB hg); replace HB := aS (below_step bS hb); have NB274_275 := aS ((by rw [hg]; exact Nat.ne_of_lt (blk_lt (kb BK274)) : gb274 ≠ gb275)); have NB275_274 := aS ((by rw [hg]; exact Nat.ne_of_gt (blk_lt (kb BK274)) : gb275 ≠ gb274)); replace BK274 := aS (blk_below (kb BK274) hb); clear hb hbox hg))
 go_loopg [6] k (fun kq v6 w' => ∃ (x6_1 : Int) (x276000_1 : List (List (S32))) (u276000 : Value), v6 = .int .i64 x6_1 ∧ Aside0 (prolepsisref07_New.l0 kq a0 a1 x6_1 x276000_1 0 0 = some (r1, r2, r3)) ∧ Aside0 (kq ≤ k) ∧ Aside0 (Kd.S (Kd.slice 32 k32) 67 w' w.heap.size (fun _ => True) u276000 x276000_1) ∧ Aside0 (w'.heap[gb274]? = some (.cells #[(.slice none 0 0), .int .i64 0, .int .i64 0] 108 (0, 0))) ∧ Aside0 (w'.heap[gb275]? = some (.cells #[u276000, .int .i64 0, .int .i64 0] 108 (0, 0))) ∧ Aside0 (Below w.heap.size w w'))
 case atStart => exact ⟨(0), (([] : List (List (S32)))), (.slice none 0 0), fS, H', ⟨Nat.le_refl _⟩, ⟨by first | exact Kd.S_nil _ _ _ _ _ | exact Kd.N_nil _ _ _ _ _ | exact Kd.V_nil _ _ _ _ _ | exact Kd.Q_nil _ _ _ _ _ | exact Kd.R_nil _ _ _ _ _⟩, ⟨kb BK274⟩, ⟨kb BK275⟩, ⟨bS⟩⟩
 case round =>
  clear H'
  try clear p2
  obtain ⟨x6_1, x276000_1, u276000, rfl, HA, HK1, HO_276000, BK274, BK275, HB⟩ := hrel
  cases gk with
  | zero => exact absurd HA.out (by simp [prolepsisref07_New.l0])
  | succ k1 =>
   have H := HA.out
   clear HA
   simp only [prolepsisref07_New.l0] at H
   by_cases c5 : x6_1 < a0
   ·rw [if_pos c5] at H
    have c5b0 : decide (x6_1 < a0) = true := decide_eq_true c5
    clear c5
    replace H := Option.bind_eq_some_iff.mp H
    obtain ⟨t276, A60, H⟩ := H
    try dsimp only at H
    have A6 := aS A60
    clear A60
    obtain ⟨c7, H⟩ := ifS H
    have LMc7 := aS c7
    clear c7
    obtain ⟨y279, hy279⟩ : ∃ y_ : List (List (S32)), y_ = (x276000_1 ++ [t276]) := ⟨_, rfl⟩
    replace H : (prolepsisref07_New.l0 k1 a0 a1 (wrap64 (x6_1 + 1)) y279 0 0) = some (r1, r2, r3) := rq hy279 H
    have Ny279 := aS hy279
    clear hy279
    have H' := aS H
    clear H
    try go_wp2
    replace HO_276000 := aS (Kd.S_drew HO_276000.out)
    replace BK274 := aS (blk_drew BK274.out)
    replace BK275 := aS (blk_drew BK275.out)
    replace HB := aS (below_drew1 HB.out)
    refine start_ (n := 8) (S := fun w' => w'.cell? ⟨gb275, 0, none⟩ = some (u276000) ∧ w'.cell? ⟨gb275, 1, none⟩ = some (.int .i64 0) ∧ w'.cell? ⟨gb275, 2, none⟩ = some (.int .i64 0)) (ds := [7]) (tb 8 0) (by kernel_rfl) rfl rfl (c3 BK275.out) (fun hHeld => ?_); refine with_tabW prolepsisref07_New.tab5 prolepsisref07_New.bits5 (fun HT_ HW_ => ?_)
    generalize wr.drew = w8 at HO_276000 BK274 BK275 HB hHeld ⊢
    refine tp 0 (some 12) (tb 8 1) ?_
    refine tp 2 (some 14) (tb 8 5) ?_
    refine tk 1 (some 13) (tb 8 7) ?_
    refine st1 3 (some 15) (tb 8 15) (fun K hK => ?_)
    refine gO Try.func52 #[.int .i64 a1] ?_
    with_reducible refine (prolepsisref06_New.calls k1 a1 t276 _ A6.out).mono ?_
    rintro e w9 ⟨v277, rfl, ho0, hb⟩
    refine ⟨_, rfl, ?_⟩
    replace HO_276000 := aS (Kd.S_elder' (by (with_reducible repeat (first | apply Kd.S_alloc | apply Kd.S_drewN | apply Kd.S_drew)); exact HO_276000.out) (Kd.R_base ho0) hb)
    have HO278 := aS (Kd.R_lower ho0 (below_size bS))
    replace BK274 := aS (blk_below (kb BK274) hb)
    replace BK275 := aS (blk_below (kb BK275) hb)
    replace HB := aS (below_step bS hb)
    (try clear hb)
    (try clear hb2)
    (try clear hk)
    (try clear hi)
    (try clear ho0)
    obtain ⟨Ao11, co11, eo11⟩ := Kd.R_slice HO278.out
    (first | subst eo11 | (injection eo11 with f1_ f2_ f3_; have f4_ := f1_.symm; have f5_ := f3_.symm; clear f1_ f2_ f3_; subst f4_; subst f5_))
    refine hK.out _ _ (c3 BK275.out) (fun hHeld => ?_)
    clear hK K
    refine nm ?_
    refine st1 4 (some 16) (tb 8 31) (fun K hK => ?_)
    refine value_ (w1 := ?_) (v := ?_) (by rfl) rfl ?_ ?_
    rotate_left 2
    ·go_simp
     constructor
     ·rfl
     ·rfl
    refine hK.out _ _ ⟨(blk_cell (blk_alloc BK275.out _) 0).trans rfl, (blk_cell (blk_alloc BK275.out _) 1).trans rfl, (blk_cell (blk_alloc BK275.out _) 2).trans rfl⟩ (fun hHeld => ?_)
    clear hK K
    refine nm ?_
    refine st1 5 (some 17) (tb 8 63) (fun K hK => ?_)
    refine Kd.S_append_step (Kd.slice 32 k32) (w0 := w) w.heap.size (by rfl) (.tmp 13) (.tmp 16) 106 67 (.slice none 0 0) 24 rfl Try.underlying106 info67 rfl (by decide) (by omega) u276000 x276000_1 t276 [.slice Ao11 t276.length co11] (fun _ => True) (fun k_ => some k_ = (.slice Ao11 t276.length co11 : Value).ownBlock) rfl rfl ?aP (fun k_ hk_ => ((Kd.R_mono (ok' := fun k_ => ((fun _ => True)) k_ ∧ some k_ ≠ (u276000 : Value).ownBlock) (Kd.R_apart' (HO278.out) (Kd.S_typed HO_276000.out) (by decide)) (fun k_ hk => ⟨trivial, hk.2⟩))).1 k_ hk_.symm) ?aF ?aO ?aB ?aS ?aL ?_
    (case aP => exact Kd.M_row (Kd.R_mono (Kd.R_tight rfl (Kd.R_mono (ok' := fun k_ => ((fun _ => True)) k_ ∧ some k_ ≠ (u276000 : Value).ownBlock) (Kd.R_apart' (HO278.out) (Kd.S_typed HO_276000.out) (by decide)) (fun k_ hk => ⟨trivial, hk.2⟩))) (fun _ h_ => h_)))
    (case aB => exact bS)
    (case aF => exact (fun _ _ => trivial))
    (case aO => exact (by (with_reducible repeat (first | apply Kd.S_alloc | apply Kd.S_drewN | apply Kd.S_drew)); exact Kd.S_mono HO_276000.out (fun k_ hk => ⟨trivial, fun e_ => hk.2 e_⟩)))
    (case aS => exact (below_size bS))
    (case aL => have := LMc7.out; omega)
    intro v280 w10 ho hb hg hat
    rw [← Ny279.out] at ho
    replace BK274 := aS (blk_grown (kb BK274) hg (Kd.S_ne HO_276000.out BK274.out (by decide)))
    replace BK275 := aS (blk_grown (kb BK275) hg (Kd.S_ne HO_276000.out BK275.out (by decide)))
    replace HB := aS (hb)
    have HO281 := aS (ho)
    clear HO_276000 HO278
    clear ho hb hg hat
    obtain ⟨Ao12, co12, eo12⟩ := Kd.S_slice HO281.out
    (first | subst eo12 | (injection eo12 with f1_ f2_ f3_; have f4_ := f1_.symm; have f5_ := f3_.symm; clear f1_ f2_ f3_; subst f4_; subst f5_))
    refine hK.out _ _ (c3 BK275.out) (fun hHeld => ?_)
    clear hK K
    refine nm ?_
    refine tp 6 (some 18) (tb 8 127) ?_
    refine last_ (i := 7) (N := none) (tb 8 255) rfl rfl (one_of HT_.out (by kernel_rfl)) (by decide) (fun K hK => ?_)
    have hs13 : w10.cell? ⟨gb275, 0, none⟩ = some (u276000) := (blk_cell BK275.out 0).trans rfl
    have hfs13 := blk_frozen BK275.out 0
    have hns13_0 := NB274_275.out
    have hms13_0 := NB275_274.out
    refine skip_ (w1 := ?_) (by rfl) rfl ?_ ?_
    rotate_left
    ·go_simp
     rfl
    refine hK.out _ _ ?_
    clear hK K
    refine done_ (done_of HT_.out (by kernel_rfl)) ?_
    try go_wp2
    go_roundg k1
    case measure => have := HK1.out; omega
    case rel => exact ⟨(wrap64 (x6_1 + 1)), (y279), (.slice Ao12 y279.length co12), fS, H', ⟨by have := HK1.out; omega⟩, ⟨by (with_reducible repeat (first | apply Kd.S_alloc | apply Kd.S_drewN | apply Kd.S_drew)); exact Kd.S_mono (Kd.S_far (p := ⟨gb275, 0, none⟩) (Kd.S_types HO281.out BK275.out (by decide)) (fun _ hk => hk.2) (.slice Ao12 y279.length co12)) (fun _ hk => trivial)⟩, ⟨by (with_reducible repeat (first | apply bN | apply bD | apply bA)); refine blk_far ?_ NB274_275.out _; (with_reducible repeat (first | apply bN | apply bD | apply bA)); exact BK274.out⟩, ⟨by (with_reducible repeat (first | apply bN | apply bD | apply bA)); refine blk_put (cs := #[u276000, .int .i64 0, .int .i64 0]) ?_ 0 _ rfl; (with_reducible repeat (first | apply bN | apply bD | apply bA)); exact BK275.out⟩, ⟨bS⟩⟩
   ·rw [if_neg c5] at H
    have c5b0 : decide (x6_1 < a0) = false := decide_eq_false c5
    clear c5
    simp only [Option.some.injEq, Prod.mk.injEq] at H
    obtain ⟨rfl, rfl, rfl⟩ := H
    have hnb14 := NB275_274.out
    have hnc14 := NB274_275.out
    have hz15 := cel3 BK275.out
    obtain ⟨Ao16, co16, eo16⟩ := Kd.S_slice HO_276000.out
    subst eo16
    have hz17 := cel3 BK274.out
    go_wp2
    refine bodyPost_ret (results_cell_row rfl _ _ gb274 108 #[.slice Ao16 x276000_1.length co16, .int .i64 0, .int .i64 0] (0, 0) _ rfl (kp BK274) Try.underlying108 rfl (by kernel_rfl)) rfl ?_
    exact ⟨_, by first | rfl | (simp <;> rfl) | (simp [*] <;> rfl), by (with_reducible repeat (first | apply Kd.S_alloc | apply Kd.S_drewN | apply Kd.S_drew)); exact Kd.S_mono (Kd.S_far (p := ⟨gb274, 2, none⟩) (Kd.S_far (p := ⟨gb274, 1, none⟩) (Kd.S_far (p := ⟨gb274, 0, none⟩) (Kd.S_types HO_276000.out BK274.out (by decide)) (fun _ hk => hk.2) (.slice Ao16 x276000_1.length co16)) (fun _ hk => hk.2) (.int .i64 0)) (fun _ hk => hk.2) (.int .i64 0)) (fun _ hk => trivial), bS⟩
def prolepsislaw05_Of.f (a0_0 : Int) (a0_1 : Int) (a0_2 : Int) (a0_3 : Int) (a0_4 : Int) (a0_5 : Int) (a0_6 : Int) : Option (Int × Int × Int × Int × Int × Int × Int) := some (wrap64 (a0_0), wrap64 (a0_1), wrap64 (a0_2), a0_3, a0_4, a0_5, a0_6)
set_option maxHeartbeats 8000000 in
set_option maxRecDepth 100000 in
theorem prolepsislaw05_Of.calls (a0_0 : Int) (a0_1 : Int) (a0_2 : Int) (a0_3 : Int) (a0_4 : Int) (a0_5 : Int) (a0_6 : Int) (r1 : Int) (r2 : Int) (r3 : Int) (r4 : Int) (r5 : Int) (r6 : Int) (r7 : Int) (w : World) (h : prolepsislaw05_Of.f a0_0 a0_1 a0_2 a0_3 a0_4 a0_5 a0_6 = some (r1, r2, r3, r4, r5, r6, r7)) :
 Calls Try.prog 18 #[.agg #[.int .i32 a0_0, .int .i32 a0_1, .int .i32 a0_2, .int .u8 a0_3, .int .u8 a0_4, .int .u8 a0_5, .int .u8 a0_6]] w fun e w' => e = .returned (.agg #[.int .i64 r1, .int .i64 r2, .int .i64 r3, .int .u8 r4, .int .u8 r5, .int .u8 r6, .int .u8 r7]) ∧ Below w.heap.size w w' := by
 have hu26 := Try.underlying26
 have hu32 := Try.underlying32
 have hu29 := Try.underlying29
 have hu24 := Try.underlying24
 have HB := aS (Below.refl w.heap.size w)
 have H : (some (wrap64 (a0_0), wrap64 (a0_1), wrap64 (a0_2), a0_3, a0_4, a0_5, a0_6)) = some (r1, r2, r3, r4, r5, r6, r7) := h
 clear h
 simp only [Option.some.injEq, Prod.mk.injEq] at H
 obtain ⟨rfl, rfl, rfl, rfl, rfl, rfl, rfl⟩ := H
 go_enter Try.func18, Try.ntmps18
 go_wp2_with (first | (refine bx 1 #[.int .i32 a0_0, .int .i32 a0_1, .int .i32 a0_2, .int .u8 a0_3, .int .u8 a0_4, .int .u8 a0_5, .int .u8 a0_6] 26 ?_; intro gb282 hg w2 hbox hb; have BK282 := aS (hbox); have GW282 := aS (gw HB hg); have GE282 := aS (gw HB hg); replace HB := aS (below_step bB hb); clear hb hbox hg) | (refine bx 2 #[.int .i64 0, .int .i64 0, .int .i64 0, .int .u8 0, .int .u8 0, .int .u8 0, .int .u8 0] 32 ?_; intro gb283 hg w3 hbox hb; have BK283 := aS (hbox); have GW283 := aS (gw HB hg); have GE283 := aS (gw HB hg); replace HB := aS (below_step bS hb); have NB282_283 := aS ((by rw [hg]; exact Nat.ne_of_lt (blk_lt (kb BK282)) : gb282 ≠ gb283)); have NB283_282 := aS ((by rw [hg]; exact Nat.ne_of_gt (blk_lt (kb BK282)) : gb283 ≠ gb282)); replace BK282 := aS (blk_below (kb BK282) hb); clear hb hbox hg; have hnb4 := NB282_283.out; have hnc4 := NB283_282.out; have hz5 := cel7 BK282.out; have hz6 := cel7 BK283.out))
 refine bodyPost_ret (results_cell_row rfl _ _ gb283 32 #[.int .i64 (wrap64 (a0_0)), .int .i64 (wrap64 (a0_1)), .int .i64 (wrap64 (a0_2)), .int .u8 a0_3, .int .u8 a0_4, .int .u8 a0_5, .int .u8 a0_6] (0, 0) _ rfl (kp BK283) Try.underlying32 rfl (by kernel_rfl)) rfl ?_
 exact ⟨by first | rfl | (simp <;> rfl) | (simp [*] <;> rfl), bS⟩
def prolepsislaw06_Cut.f (l0 : List (S26)) : Option ((List (S26))) := (some (([] : List (S26)) : List (S26))).bind fun y284 => (if 0 ≤ (mn (l0.length : Int) 30) then (if (mn (l0.length : Int) 30) ≤ (l0.length : Int) then ((some (l0.take ((mn (l0.length : Int) 30) : Int).toNat : List (S26))).bind fun y287 => (if y284.length + y287.length < 8796093022208 then (some (y284 ++ y287)) else (none))) else (none)) else (none))
set_option maxHeartbeats 8000000 in
set_option maxRecDepth 100000 in
theorem prolepsislaw06_Cut.calls (A0 : Option Addr) (c0 : Nat) (l0 : List (S26)) (r : List (S26)) (w : World) (hr0 : Kd.C k26 w A0 l0.length l0) (hc0 : l0.length ≤ c0) (h : prolepsislaw06_Cut.f l0 = some r) :
 Calls Try.prog 35 #[.slice A0 l0.length c0] w fun e w' => ∃ v0_ : Value, e = .returned (v0_) ∧ Kd.R k26 26 w' w.heap.size (fun _ => True) v0_ r ∧ Below w.heap.size w w' := by
 have HR0 := aS hr0
 have HC0 := aS hc0
 clear hr0 hc0
 have HB := aS (Below.refl w.heap.size w)
 have H : ((some (([] : List (S26)) : List (S26))).bind fun y284 => (if 0 ≤ (mn (l0.length : Int) 30) then (if (mn (l0.length : Int) 30) ≤ (l0.length : Int) then ((some (l0.take ((mn (l0.length : Int) 30) : Int).toNat : List (S26))).bind fun y287 => (if y284.length + y287.length < 8796093022208 then (some (y284 ++ y287)) else (none))) else (none)) else (none))) = some r := h
 clear h
 obtain ⟨y284, hy284⟩ : ∃ y_ : List (S26), y_ = (([] : List (S26))) := ⟨_, rfl⟩
 replace H : (if 0 ≤ (mn (l0.length : Int) 30) then (if (mn (l0.length : Int) 30) ≤ (l0.length : Int) then ((some (l0.take ((mn (l0.length : Int) 30) : Int).toNat : List (S26))).bind fun y287 => (if y284.length + y287.length < 8796093022208 then (some (y284 ++ y287)) else (none))) else (none)) else (none)) = some r := rq hy284 H
 have Ny284 := aS hy284
 clear hy284
 obtain ⟨ji2, hji2⟩ : ∃ j_ : Int, (mn (l0.length : Int) 30) = j_ := ⟨_, rfl⟩
 replace H : (if 0 ≤ (ji2) then (if (ji2) ≤ (l0.length : Int) then ((some (l0.take ((ji2) : Int).toNat : List (S26))).bind fun y287 => (if y284.length + y287.length < 8796093022208 then (some (y284 ++ y287)) else (none))) else (none)) else (none)) = some r := by first | (rw [hji2] at H; exact H) | (simp only [hji2] at H ⊢; exact H)
 (try (have hji2h : ji2 ≤ 30 := by (rw [← hji2]; unfold mn; (repeat' split) <;> omega)))
 (try (have hji2g : ji2 ≤ 64 := by omega))
 (try (have hji2l : 0 ≤ ji2 := by (rw [← hji2]; unfold mn; (repeat' split) <;> omega)))
 (try (have hji2m : 0 ≤ ji2 := by omega))
 have hji2_ : (if 30 < (l0.length : Int) then 30 else (l0.length : Int)) = ji2 := hji2
 obtain ⟨c3, H⟩ := ifS H
 have c3b0 := eq_true c3
 have c3b1 : decide (0 ≤ (ji2)) = true := decide_eq_true c3
 clear c3
 obtain ⟨c4, H⟩ := ifS H
 have c4b0 := eq_true c4
 have c4b1 : decide ((ji2) ≤ (l0.length : Int)) = true := decide_eq_true c4
 clear c4
 obtain ⟨y287, hy287⟩ : ∃ y_ : List (S26), y_ = (l0.take ((ji2) : Int).toNat) := ⟨_, rfl⟩
 replace H : (if y284.length + y287.length < 8796093022208 then (some (y284 ++ y287)) else (none)) = some r := rq hy287 H
 have Ny287 := aS hy287
 clear hy287
 obtain ⟨c5, H⟩ := ifS H
 have LMc5 := aS c5
 clear c5
 obtain ⟨y291, hy291⟩ : ∃ y_ : List (S26), y_ = (y284 ++ y287) := ⟨_, rfl⟩
 replace H : (some y291) = some r := rq hy291 H
 have Ny291 := aS hy291
 clear hy291
 obtain rfl := Option.some.inj H
 go_enter Try.func35, Try.ntmps35
 go_wp2_with (first | ((with_reducible refine gate_dst (N := 3) rfl ?_); refine Kd.R_lit k26 _ 26 ?hg (N := 3) ?hd (xs := ([] : List (S26))) (inner := []) (ok := fun _ => True) (okp := fun _ => True) ?hr ?hp (fun _ hk => hk) trivial (Below.refl _ _) (Nat.le_refl _) (by simp) ?_; (case hd => rfl); (case hg => rfl); (case hr => first | (go_simp; done) | (go_simp; rfl)); (case hp => exact (Reps.none _ _)); intro v285 w6 ho7 hb hg_ hnew_; clear hg_ hnew_; (first | rw [← Ny284.out] at ho7 | (simp only [Int.reduceToNat] at ho7; rw [← Ny284.out] at ho7)); have HO286 := aS (Kd.R_lower ho7 (below_size bB)); replace HB := aS (below_step bB hb); clear hb ho7; have q8 : ((ji2) : Int) ≤ ((l0.length : Int) : Int) := dA; obtain ⟨i08, hi08, _, hsz8, _⟩ := info_parts info26; have hroom8 : l0.length ≤ c0 := HC0.out; have hC8 : Kd.C k26 _ A0 l0.length l0 := HR0.out; have hcut8 := cut_to (P := Try.prog) 58 26 .i64 Try.underlying58 hi08 A0 l0.length c0 (ji2) (dA) q8 hroom8; have hr8 := Kd.C_take (m := ((ji2) : Int).toNat) hC8 (by omega); have hy8 : y287.length = ((ji2) : Int).toNat := (by rw [Ny287.out, List.length_take]; omega); rw [← Ny287.out] at hr8; rw [← hy8] at hcut8; have HR290 := aS hr8; have HC290 := aS (show y287.length ≤ c0 from by omega); clear hr8 hC8 hroom8 hi08 hsz8; have KY8 := aS hy8; clear hy8; replace q8 := eq_true q8) | ((with_reducible refine gate_builtin (b := .append) (xs := #[.tmp 3, .tmp 8]) rfl ?_); at_builtin; refine Kd.R_append_rows k26 (w0 := w) w.heap.size rfl (.tmp 3) (.tmp 8) 58 26 (.agg #[(.int .i32 0), (.int .i32 0), (.int .i32 0), (.int .u8 0), (.int .u8 0), (.int .u8 0), (.int .u8 0)]) 16 rfl Try.underlying58 info26 rfl (by decide) (by omega) v285 y284 y287 _ _ _ (fun _ => True) (fun _ => False) rfl rfl ?aO ?aR (fun _ _ h => h) (fun _ h => h.elim) ?aF ?aB ?aS ?aL ?_; (case aR => repeat (first | exact (Kd.C_below HR290.out HB.out) | (with_reducible refine Kd.C_alloc ?_ _) | (with_reducible refine Kd.C_drewN ?_ _) | (with_reducible refine Kd.C_drew ?_))); (case aB => exact bB); (case aF => exact (fun _ _ => trivial)); (case aO => exact (rr HO286)); (case aS => exact (below_size bB)); (case aL => have := LMc5.out; omega); intro v292 w9 ho hb hg hat; rw [← Ny291.out] at ho; replace HB := aS (hb); have HO293 := aS (ho); clear HO286; clear ho hb hg hat))
 go_ret
 exact ⟨_, by first | rfl | (simp <;> rfl) | (simp only [← hji2]; first | rfl | (simp <;> rfl)) | (simp [*] <;> rfl), rr HO293, bB⟩
def prolepsislaw06_Of.l0 : Nat → List (S26) → List (S32) → Int → Option ((List (S32)))
 | 0, _, _, _ => none
 | k + 1, x0, x3, x4 => if x4 < (x0.length : Int) then (if 0 ≤ x4 then ((prolepsislaw05_Of.f ((rd_T26 x0 x4).f0) ((rd_T26 x0 x4).f1.f0) ((rd_T26 x0 x4).f1.f1) ((rd_T26 x0 x4).f2) ((rd_T26 x0 x4).f3.f0) ((rd_T26 x0 x4).f3.f1) ((rd_T26 x0 x4).f3.f2)).bind fun bt295 => (if x3.length < 4398046511104 then (prolepsislaw06_Of.l0 k x0 (x3 ++ [(⟨bt295.1, (⟨bt295.2.1, bt295.2.2.1⟩ : S29), bt295.2.2.2.1, (⟨bt295.2.2.2.2.1, bt295.2.2.2.2.2.1, bt295.2.2.2.2.2.2⟩ : S30)⟩ : S32)]) (wrap64 (x4 + 1))) else (none))) else (none)) else (some x3)
def prolepsislaw06_Of.f (k : Nat) (l0 : List (S26)) : Option ((List (S32))) := prolepsislaw06_Of.l0 k l0 ([] : List (S32)) 0
set_option maxHeartbeats 8000000 in
set_option maxRecDepth 100000 in
theorem prolepsislaw06_Of.calls (k : Nat) (A0 : Option Addr) (c0 : Nat) (l0 : List (S26)) (r : List (S32)) (w : World) (hr0 : Kd.C k26 w A0 l0.length l0) (hc0 : l0.length ≤ c0) (h : prolepsislaw06_Of.f k l0 = some r) :
 Calls Try.prog 42 #[.slice A0 l0.length c0] w fun e w' => ∃ v0_ : Value, e = .returned (v0_) ∧ Kd.R k32 32 w' w.heap.size (fun _ => True) v0_ r ∧ Below w.heap.size w w' := by
 have hu26 := Try.underlying26
 have HR0 := aS hr0
 have HC0 := aS hc0
 clear hr0 hc0
 have HB := aS (Below.refl w.heap.size w)
 have H : (prolepsislaw06_Of.l0 k l0 ([] : List (S32)) 0) = some r := h
 clear h
 have H' := aS H
 clear H
 go_enter Try.func42, Try.ntmps42
 go_wp2
 go_loopg [3, 4] k (fun kq v3 v4 w' => ∃ (x3_1 : List (S32)) (x4_1 : Int), v4 = .int .i64 x4_1 ∧ Aside0 (prolepsislaw06_Of.l0 kq l0 x3_1 x4_1 = some r) ∧ Aside0 (kq ≤ k) ∧ Aside0 (Kd.R k32 32 w' w.heap.size (fun _ => True) v3 x3_1) ∧ Aside0 (Below w.heap.size w w'))
 case atStart => exact ⟨(([] : List (S32))), (0), fS, H', ⟨Nat.le_refl _⟩, ⟨by first | exact Kd.R_nil _ _ _ _ _ | exact Kd.N_nil _ _ _ _ _ | exact Kd.V_nil _ _ _ _ _ | exact Kd.Q_nil _ _ _ _ _ | exact Kd.S_nil _ _ _ _ _⟩, ⟨bB⟩⟩
 case round =>
  clear H'
  obtain ⟨x3_1, x4_1, rfl, HA, HK1, HO_3, HB⟩ := hrel
  cases gk with
  | zero => exact absurd HA.out (by simp [prolepsislaw06_Of.l0])
  | succ k1 =>
   have H := HA.out
   clear HA
   simp only [prolepsislaw06_Of.l0] at H
   by_cases c2 : x4_1 < (l0.length : Int)
   ·rw [if_pos c2] at H
    have c2b0 : decide (x4_1 < (l0.length : Int)) = true := decide_eq_true c2
    clear c2
    obtain ⟨c3, H⟩ := ifS H
    have c3b0 : decide (0 ≤ x4_1) = true := decide_eq_true c3
    clear c3
    replace H := Option.bind_eq_some_iff.mp H
    obtain ⟨⟨t295, t296, t297, t298, t299, t300, t301⟩, A40, H⟩ := H
    try dsimp only at H
    have A4 := aS A40
    clear A40
    obtain ⟨c5, H⟩ := ifS H
    have LMc5 := aS c5
    clear c5
    obtain ⟨y302, hy302⟩ : ∃ y_ : List (S32), y_ = (x3_1 ++ [(⟨t295, (⟨t296, t297⟩ : S29), t298, (⟨t299, t300, t301⟩ : S30)⟩ : S32)]) := ⟨_, rfl⟩
    replace H : (prolepsislaw06_Of.l0 k1 l0 y302 (wrap64 (x4_1 + 1))) = some r := rq hy302 H
    have Ny302 := aS hy302
    clear hy302
    have H' := aS H
    clear H
    have p294 : 0 ≤ (x4_1 : Int) := dA
    have q294 : x4_1 < (l0.length : Int) := dA
    obtain ⟨ad294, e294, hx294_0, hx294_1, hx294_2, hx294_3, hx294_4, hx294_5, hx294_6⟩ := at_T26 HR0.out x4_1 p294 q294
    cases e294
    replace hx294_0 := xc HB hx294_0
    replace hx294_1 := xc HB hx294_1
    replace hx294_2 := xc HB hx294_2
    replace hx294_3 := xc HB hx294_3
    replace hx294_4 := xc HB hx294_4
    replace hx294_5 := xc HB hx294_5
    replace hx294_6 := xc HB hx294_6
    replace p294 := eq_true p294
    replace q294 := eq_true q294
    go_wp2_with (first | (refine gL 18 16 Try.func18 #[.agg #[.int .i32 ((rd_T26 l0 x4_1).f0), .int .i32 ((rd_T26 l0 x4_1).f1.f0), .int .i32 ((rd_T26 l0 x4_1).f1.f1), .int .u8 ((rd_T26 l0 x4_1).f2), .int .u8 ((rd_T26 l0 x4_1).f3.f0), .int .u8 ((rd_T26 l0 x4_1).f3.f1), .int .u8 ((rd_T26 l0 x4_1).f3.f2)]] ?_; (with_reducible refine (prolepsislaw05_Of.calls ((rd_T26 l0 x4_1).f0) ((rd_T26 l0 x4_1).f1.f0) ((rd_T26 l0 x4_1).f1.f1) ((rd_T26 l0 x4_1).f2) ((rd_T26 l0 x4_1).f3.f0) ((rd_T26 l0 x4_1).f3.f1) ((rd_T26 l0 x4_1).f3.f2) t295 t296 t297 t298 t299 t300 t301 _ A4.out).mono ?_); rintro e w6 ⟨rfl, hb⟩; refine ⟨_, rfl, ?_⟩; replace HO_3 := aS (Kd.R_below (rr HO_3) hb); replace HB := aS (below_step bB hb); (try clear hb); (try clear hb2); (try clear hk); (try clear hi)) | ((with_reducible refine gate_builtin (b := .append) (xs := #[.tmp 11, .tmp 17]) rfl ?_); at_builtin; refine Kd.R_append k32 (w0 := w) w.heap.size rfl (.tmp 11) (.tmp 17) 67 32 (.agg #[(.int .i64 0), (.int .i64 0), (.int .i64 0), (.int .u8 0), (.int .u8 0), (.int .u8 0), (.int .u8 0)]) 32 rfl Try.underlying67 info32 rfl (by decide) (by omega) u3 x3_1 (⟨t295, (⟨t296, t297⟩ : S29), t298, (⟨t299, t300, t301⟩ : S30)⟩ : S32) [.int .i64 t295, .int .i64 t296, .int .i64 t297, .int .u8 t298, .int .u8 t299, .int .u8 t300, .int .u8 t301] (fun _ => True) (fun _ => False) rfl rfl ?aP (fun _ hk => hk.elim) ?aF ?aO ?aB ?aS ?aL ?_; (case aP => exact k32_mkM _ _ _ (⟨t295, (⟨t296, t297⟩ : S29), t298, (⟨t299, t300, t301⟩ : S30)⟩ : S32)); (case aB => exact bB); (case aF => exact (fun _ _ => trivial)); (case aO => exact (rr HO_3)); (case aS => exact (below_size bB)); (case aL => have := LMc5.out; omega); intro v303 w7 ho hb hg hat; rw [← Ny302.out] at ho; replace HB := aS (hb); have HO304 := aS (ho); clear HO_3; clear ho hb hg hat))
    go_roundg k1
    case measure => have := HK1.out; omega
    case rel => exact ⟨(y302), (wrap64 (x4_1 + 1)), fS, H', ⟨by have := HK1.out; omega⟩, ⟨rr HO304⟩, ⟨bB⟩⟩
   ·rw [if_neg c2] at H
    have c2b0 : decide (x4_1 < (l0.length : Int)) = false := decide_eq_false c2
    clear c2
    obtain rfl := Option.some.inj H
    go_wp2
    go_ret
    exact ⟨_, by first | rfl | (simp <;> rfl) | (simp [*] <;> rfl), rr HO_3, bB⟩
def cell_Cell_97.l0 : Nat → List (S26) → List (S26) → Int → Int → Option (Bool)
 | 0, _, _, _, _ => none
 | k + 1, x0, x1, x12, x13 => if x13 < x12 then (if 0 ≤ x13 then (if x13 < (x0.length : Int) then (if x13 < (x1.length : Int) then (if (!(((rd_T26 x0 x13).f0) == ((rd_T26 x1 x13).f0)) || ((!(((rd_T26 x0 x13).f1.f0) == ((rd_T26 x1 x13).f1.f0)) || (!(((rd_T26 x0 x13).f1.f1) == ((rd_T26 x1 x13).f1.f1)))) || (!(((rd_T26 x0 x13).f2) == ((rd_T26 x1 x13).f2)) || ((!(((rd_T26 x0 x13).f3.f0) == ((rd_T26 x1 x13).f3.f0)) || (!(((rd_T26 x0 x13).f3.f1) == ((rd_T26 x1 x13).f3.f1)) || (!(((rd_T26 x0 x13).f3.f2) == ((rd_T26 x1 x13).f3.f2))))))))) = true then (some false) else (cell_Cell_97.l0 k x0 x1 x12 (wrap64 (x13 + 1)))) else (none)) else (none)) else (none)) else (some true)
def cell_Cell_97.f (k : Nat) (l0 : List (S26)) (l1 : List (S26)) : Option (Bool) := if (l0.length : Int) = (l1.length : Int) then (cell_Cell_97.l0 k l0 l1 (l0.length : Int) 0) else (some false)
set_option maxHeartbeats 8000000 in
set_option maxRecDepth 100000 in
theorem cell_Cell_97.calls (k : Nat) (A0 : Option Addr) (c0 : Nat) (l0 : List (S26)) (A1 : Option Addr) (c1 : Nat) (l1 : List (S26)) (r : Bool) (w : World) (hr0 : Kd.C k26 w A0 l0.length l0) (hc0 : l0.length ≤ c0) (hr1 : Kd.C k26 w A1 l1.length l1) (hc1 : l1.length ≤ c1) (h : cell_Cell_97.f k l0 l1 = some r) :
 Calls Try.prog 97 #[.slice A0 l0.length c0, .slice A1 l1.length c1] w fun e w' => e = .returned (.bool r) ∧ Drawn0 w w' := by
 have hu26 := Try.underlying26
 have HR0 := aS hr0
 have HC0 := aS hc0
 clear hr0 hc0
 have HR1 := aS hr1
 have HC1 := aS hc1
 clear hr1 hc1
 have H : (if (l0.length : Int) = (l1.length : Int) then (cell_Cell_97.l0 k l0 l1 (l0.length : Int) 0) else (some false)) = some r := h
 clear h
 by_cases c3 : (l0.length : Int) = (l1.length : Int)
 ·rw [if_pos c3] at H
  have c3b0 : ((l0.length : Int) == (l1.length : Int)) = true := beq_iff_eq.mpr c3
  have c3b1 : ((l0.length : Int) != (l1.length : Int)) = false := bne_eq_false_iff_eq.mpr c3
  have c3b2 : (l0.length == l1.length) = true := by first | simpa using c3 | (simp at c3 ⊢; omega)
  clear c3
  have H' := aS H
  clear H
  go_enter Try.func97, Try.ntmps97
  go_wp2
  repeat (go_quiet (fail); try go_wp2)
  go_loopg [13] k (fun kq v13 w' => ∃ (x13_1 : Int), v13 = .int .i64 x13_1 ∧ Aside0 (cell_Cell_97.l0 kq l0 l1 (l0.length : Int) x13_1 = some r) ∧ Aside0 (kq ≤ k) ∧ Drawn0 w w')
  case atStart => exact ⟨(0), fS, H', ⟨Nat.le_refl _⟩, by repeat (first | exact Drawn0.refl _ | apply Drawn0.step)⟩
  case round =>
   clear H'
   try clear c1
   try clear p2
   try clear c3
   try clear c3b0
   try clear c3b1
   try clear c3b2
   obtain ⟨x13_1, rfl, HA, HK1, ⟨m1, rfl⟩⟩ := hrel
   cases gk with
   | zero => exact absurd HA.out (by simp [cell_Cell_97.l0])
   | succ k1 =>
    have H := HA.out
    clear HA
    simp only [cell_Cell_97.l0] at H
    by_cases c4 : x13_1 < (l0.length : Int)
    ·rw [if_pos c4] at H
     have c4b0 : decide (x13_1 < (l0.length : Int)) = true := decide_eq_true c4
     clear c4
     obtain ⟨c5, H⟩ := ifS H
     have c5b0 : decide (0 ≤ x13_1) = true := decide_eq_true c5
     clear c5
     obtain ⟨c6, H⟩ := ifS H
     have c6b0 : decide (x13_1 < (l0.length : Int)) = true := decide_eq_true c6
     clear c6
     obtain ⟨c7, H⟩ := ifS H
     have c7b0 : decide (x13_1 < (l1.length : Int)) = true := decide_eq_true c7
     clear c7
     by_cases c8 : (!(((rd_T26 l0 x13_1).f0) == ((rd_T26 l1 x13_1).f0)) || ((!(((rd_T26 l0 x13_1).f1.f0) == ((rd_T26 l1 x13_1).f1.f0)) || (!(((rd_T26 l0 x13_1).f1.f1) == ((rd_T26 l1 x13_1).f1.f1)))) || (!(((rd_T26 l0 x13_1).f2) == ((rd_T26 l1 x13_1).f2)) || ((!(((rd_T26 l0 x13_1).f3.f0) == ((rd_T26 l1 x13_1).f3.f0)) || (!(((rd_T26 l0 x13_1).f3.f1) == ((rd_T26 l1 x13_1).f3.f1)) || (!(((rd_T26 l0 x13_1).f3.f2) == ((rd_T26 l1 x13_1).f3.f2))))))))) = true
     ·rw [if_pos c8] at H
      have c8b0 : (!(((rd_T26 l0 x13_1).f0) == ((rd_T26 l1 x13_1).f0)) || ((!(((rd_T26 l0 x13_1).f1.f0) == ((rd_T26 l1 x13_1).f1.f0)) || (!(((rd_T26 l0 x13_1).f1.f1) == ((rd_T26 l1 x13_1).f1.f1)))) || (!(((rd_T26 l0 x13_1).f2) == ((rd_T26 l1 x13_1).f2)) || ((!(((rd_T26 l0 x13_1).f3.f0) == ((rd_T26 l1 x13_1).f3.f0)) || (!(((rd_T26 l0 x13_1).f3.f1) == ((rd_T26 l1 x13_1).f3.f1)) || (!(((rd_T26 l0 x13_1).f3.f2) == ((rd_T26 l1 x13_1).f3.f2))))))))) = true := c8
      clear c8
      obtain rfl := Option.some.inj H
      have p305 : 0 ≤ (x13_1 : Int) := dA
      have q305 : x13_1 < (l0.length : Int) := dA
      obtain ⟨ad305, e305, hx305_0, hx305_1, hx305_2, hx305_3, hx305_4, hx305_5, hx305_6⟩ := at_T26 HR0.out x13_1 p305 q305
      cases e305
      replace p305 := eq_true p305
      replace q305 := eq_true q305
      have p306 : 0 ≤ (x13_1 : Int) := dA
      have q306 : x13_1 < (l1.length : Int) := dA
      obtain ⟨ad306, e306, hx306_0, hx306_1, hx306_2, hx306_3, hx306_4, hx306_5, hx306_6⟩ := at_T26 HR1.out x13_1 p306 q306
      cases e306
      replace p306 := eq_true p306
      replace q306 := eq_true q306
      go_wp2
      repeat (go_quiet (fail); try go_wp2)
      go_ret
      exact ⟨by first | rfl | (simp; done) | (simp [*]; done), by repeat (first | exact Drawn0.refl _ | apply Drawn0.step)⟩
     ·rw [if_neg c8] at H
      have c8b0 : (!(((rd_T26 l0 x13_1).f0) == ((rd_T26 l1 x13_1).f0)) || ((!(((rd_T26 l0 x13_1).f1.f0) == ((rd_T26 l1 x13_1).f1.f0)) || (!(((rd_T26 l0 x13_1).f1.f1) == ((rd_T26 l1 x13_1).f1.f1)))) || (!(((rd_T26 l0 x13_1).f2) == ((rd_T26 l1 x13_1).f2)) || ((!(((rd_T26 l0 x13_1).f3.f0) == ((rd_T26 l1 x13_1).f3.f0)) || (!(((rd_T26 l0 x13_1).f3.f1) == ((rd_T26 l1 x13_1).f3.f1)) || (!(((rd_T26 l0 x13_1).f3.f2) == ((rd_T26 l1 x13_1).f3.f2))))))))) = false := by simpa using c8
      clear c8
      have H' := aS H
      clear H
      have p305 : 0 ≤ (x13_1 : Int) := dA
      have q305 : x13_1 < (l0.length : Int) := dA
      obtain ⟨ad305, e305, hx305_0, hx305_1, hx305_2, hx305_3, hx305_4, hx305_5, hx305_6⟩ := at_T26 HR0.out x13_1 p305 q305
      cases e305
      replace p305 := eq_true p305
      replace q305 := eq_true q305
      have p306 : 0 ≤ (x13_1 : Int) := dA
      have q306 : x13_1 < (l1.length : Int) := dA
      obtain ⟨ad306, e306, hx306_0, hx306_1, hx306_2, hx306_3, hx306_4, hx306_5, hx306_6⟩ := at_T26 HR1.out x13_1 p306 q306
      cases e306
      replace p306 := eq_true p306
      replace q306 := eq_true q306
      go_wp2
      repeat (go_quiet (fail); try go_wp2)
      go_roundg k1
      case measure => have := HK1.out; omega
      case rel => exact ⟨(wrap64 (x13_1 + 1)), fS, H', ⟨by have := HK1.out; omega⟩, by repeat (first | exact Drawn0.refl _ | apply Drawn0.step)⟩
    ·rw [if_neg c4] at H
     have c4b0 : decide (x13_1 < (l0.length : Int)) = false := decide_eq_false c4
     clear c4
     obtain rfl := Option.some.inj H
     go_wp2
     repeat (go_quiet (fail); try go_wp2)
     go_ret
     exact ⟨by first | rfl | (simp; done) | (simp [*]; done), by repeat (first | exact Drawn0.refl _ | apply Drawn0.step)⟩
 ·rw [if_neg c3] at H
  have c3b0 : ((l0.length : Int) == (l1.length : Int)) = false := beq_eq_false_iff_ne.mpr c3
  have c3b1 : ((l0.length : Int) != (l1.length : Int)) = true := bne_iff_ne.mpr c3
  have c3b2 : (l0.length == l1.length) = false := by first | simpa using c3 | (simp at c3 ⊢; omega)
  obtain rfl := Option.some.inj H
  go_enter Try.func97, Try.ntmps97
  go_wp2
  repeat (go_quiet (fail); try go_wp2)
  go_ret
  exact ⟨by first | rfl | (simp; done) | (simp [*]; done), by repeat (first | exact Drawn0.refl _ | apply Drawn0.step)⟩
def line_Same.f (k : Nat) (l0 : List (S26)) (l1 : List (S26)) : Option (Bool) := (cell_Cell_97.f k l0 l1).bind fun t307 => (some t307)
set_option maxHeartbeats 8000000 in
set_option maxRecDepth 100000 in
theorem line_Same.calls (k : Nat) (A0 : Option Addr) (c0 : Nat) (l0 : List (S26)) (A1 : Option Addr) (c1 : Nat) (l1 : List (S26)) (r : Bool) (w : World) (hr0 : Kd.C k26 w A0 l0.length l0) (hc0 : l0.length ≤ c0) (hr1 : Kd.C k26 w A1 l1.length l1) (hc1 : l1.length ≤ c1) (h : line_Same.f k l0 l1 = some r) :
 Calls Try.prog 38 #[.slice A0 l0.length c0, .slice A1 l1.length c1] w fun e w' => e = .returned (.bool r) ∧ Drawn0 w w' := by
 have HR0 := aS hr0
 have HC0 := aS hc0
 clear hr0 hc0
 have HR1 := aS hr1
 have HC1 := aS hc1
 clear hr1 hc1
 have H : ((cell_Cell_97.f k l0 l1).bind fun t307 => (some t307)) = some r := h
 clear h
 replace H := Option.bind_eq_some_iff.mp H
 obtain ⟨t307, A30, H⟩ := H
 try dsimp only at H
 have A3 := aS A30
 clear A30
 obtain rfl := Option.some.inj H
 go_enter Try.func38, Try.ntmps38
 go_wp2_with (first | (refine gL 97 7 Try.func97 #[.slice A0 l0.length c0, .slice A1 l1.length c1] ?_; (with_reducible refine (cell_Cell_97.calls k _ _ l0 _ _ l1 t307 _ ?side1 ?side2 ?side3 ?side4 A3.out).mono ?_); (case side1 => repeat (first | exact HR0.out | (with_reducible refine Kd.C_alloc ?_ _) | (with_reducible refine Kd.C_drewN ?_ _) | (with_reducible refine Kd.C_drew ?_))); (case side2 => exact HC0.out); (case side3 => repeat (first | exact HR1.out | (with_reducible refine Kd.C_alloc ?_ _) | (with_reducible refine Kd.C_drewN ?_ _) | (with_reducible refine Kd.C_drew ?_))); (case side4 => exact HC1.out); rintro e w' ⟨rfl, ⟨nd, rfl⟩⟩; refine ⟨_, rfl, ?_⟩))
 go_ret
 exact ⟨by first | rfl | (simp; done) | (simp [*]; done), by repeat (first | exact Drawn0.refl _ | apply Drawn0.step)⟩
def prolepsisref05_Rest.f (a0_0 : Int) (a0_1 : Int) (a0_2 : Int) (a0_3 : Int) (a0_4 : Int) (a0_5 : Int) (a0_6 : Int) : Option (Int × Int × Int × Int × Int × Int × Int) := some (0, 0, 0, 0, a0_4, a0_5, a0_6)
set_option maxHeartbeats 8000000 in
set_option maxRecDepth 100000 in
theorem prolepsisref05_Rest.calls (a0_0 : Int) (a0_1 : Int) (a0_2 : Int) (a0_3 : Int) (a0_4 : Int) (a0_5 : Int) (a0_6 : Int) (r1 : Int) (r2 : Int) (r3 : Int) (r4 : Int) (r5 : Int) (r6 : Int) (r7 : Int) (w : World) (h : prolepsisref05_Rest.f a0_0 a0_1 a0_2 a0_3 a0_4 a0_5 a0_6 = some (r1, r2, r3, r4, r5, r6, r7)) :
 Calls Try.prog 24 #[.agg #[.int .i64 a0_0, .int .i64 a0_1, .int .i64 a0_2, .int .u8 a0_3, .int .u8 a0_4, .int .u8 a0_5, .int .u8 a0_6]] w fun e w' => e = .returned (.agg #[.int .i64 r1, .int .i64 r2, .int .i64 r3, .int .u8 r4, .int .u8 r5, .int .u8 r6, .int .u8 r7]) ∧ Below w.heap.size w w' := by
 have hu32 := Try.underlying32
 have hu30 := Try.underlying30
 have HB := aS (Below.refl w.heap.size w)
 have H : (some (0, 0, 0, 0, a0_4, a0_5, a0_6)) = some (r1, r2, r3, r4, r5, r6, r7) := h
 clear h
 simp only [Option.some.injEq, Prod.mk.injEq] at H
 obtain ⟨rfl, rfl, rfl, rfl, rfl, rfl, rfl⟩ := H
 go_enter Try.func24, Try.ntmps24
 go_wp2_with (first | (refine bx 1 #[.int .i64 a0_0, .int .i64 a0_1, .int .i64 a0_2, .int .u8 a0_3, .int .u8 a0_4, .int .u8 a0_5, .int .u8 a0_6] 32 ?_; intro gb308 hg w2 hbox hb; have BK308 := aS (hbox); have GW308 := aS (gw HB hg); have GE308 := aS (gw HB hg); replace HB := aS (below_step bB hb); clear hb hbox hg) | (refine bx 2 #[.int .i64 0, .int .i64 0, .int .i64 0, .int .u8 0, .int .u8 0, .int .u8 0, .int .u8 0] 32 ?_; intro gb309 hg w3 hbox hb; have BK309 := aS (hbox); have GW309 := aS (gw HB hg); have GE309 := aS (gw HB hg); replace HB := aS (below_step bS hb); have NB308_309 := aS ((by rw [hg]; exact Nat.ne_of_lt (blk_lt (kb BK308)) : gb308 ≠ gb309)); have NB309_308 := aS ((by rw [hg]; exact Nat.ne_of_gt (blk_lt (kb BK308)) : gb309 ≠ gb308)); replace BK308 := aS (blk_below (kb BK308) hb); clear hb hbox hg; have hnb4 := NB308_309.out; have hnc4 := NB309_308.out; have hz5 := cel7 BK308.out; have hz6 := cel7 BK309.out))
 refine bodyPost_ret (results_cell_row rfl _ _ gb309 32 #[.int .i64 0, .int .i64 0, .int .i64 0, .int .u8 0, .int .u8 a0_4, .int .u8 a0_5, .int .u8 a0_6] (0, 0) _ rfl (kp BK309) Try.underlying32 rfl (by kernel_rfl)) rfl ?_
 exact ⟨by first | rfl | (simp <;> rfl) | (simp [*] <;> rfl), bS⟩
end Go.Proofs.Ytblcmcdifgclcaa.PGridSame
