/- GridPlays: what its proof leads to. No condition. -/
import Derived.Test.YtblcmcdifgclcaaGreatG13qGridPlays
import Derived.Test.YtblcmcdifgclcaaGreatG14qGridPlays
import Derived.Test.YtblcmcdifgclcaaGreatG15qGridPlays
import Derived.Test.YtblcmcdifgclcaaGreatG6qGridPlays
namespace Go.Proofs.YtblcmcdifgclcaaGreat.PGridPlays
open Go.RowKit Go.Proofs.YtblcmcdifgclcaaGreatW.PrintWords Go.Proofs.YtblcmcdifgclcaaGreatW.PrintLast Go.Proofs.YtblcmcdifgclcaaGreatW.PrintMore
attribute [local go_sem] isSome_setCell max2_int min2_int max_two min_two
set_option linter.unusedVariables false
set_option linter.unusedSimpArgs false
attribute [local go_sem high] eqA40
def line_Fit.f (k : Nat) (l0 : List (S40)) (a1 : Int) : Option ((List (S40))) := (line_length.f a1).bind fun t233 => (if t233 ≤ (l0.length : Int) then (if 0 ≤ t233 then ((line_Mend.f (l0.take (t233 : Int).toNat)).bind fun t238 => (some t238)) else (none)) else ((cell_Cell_52.f l0).bind fun t241 => ((line_blanks.f k (wrap64 (t233 - (l0.length : Int))) 0 0 0).bind fun t244 => (if t241.length + t244.length < 8796093022208 then ((line_Mend.f (t241 ++ t244)).bind fun t250 => (some t250)) else (none)))))
set_option maxHeartbeats 8000000 in
set_option maxRecDepth 100000 in
theorem line_Fit.calls (k : Nat) (A0 : Option Addr) (c0 : Nat) (l0 : List (S40)) (a1 : Int) (r : List (S40)) (w : World) (hr0 : Kd.C k40 w A0 l0.length l0) (hc0 : l0.length ≤ c0) (h : line_Fit.f k l0 a1 = some r) :
 Calls Tryz.prog 61 #[.slice A0 l0.length c0, .int .i64 a1] w fun e w' => ∃ v0_ : Value, e = .returned (v0_) ∧ Kd.R k40 40 w' w.heap.size (fun _ => True) v0_ r ∧ Below w.heap.size w w' := by
 have hu38 := Tryz.underlying38
 have HR0 := aS hr0
 have HC0 := aS hc0
 clear hr0 hc0
 have HB := aS (Below.refl w.heap.size w)
 have H : ((line_length.f a1).bind fun t233 => (if t233 ≤ (l0.length : Int) then (if 0 ≤ t233 then ((line_Mend.f (l0.take (t233 : Int).toNat)).bind fun t238 => (some t238)) else (none)) else ((cell_Cell_52.f l0).bind fun t241 => ((line_blanks.f k (wrap64 (t233 - (l0.length : Int))) 0 0 0).bind fun t244 => (if t241.length + t244.length < 8796093022208 then ((line_Mend.f (t241 ++ t244)).bind fun t250 => (some t250)) else (none)))))) = some r := h
 clear h
 replace H := Option.bind_eq_some_iff.mp H
 obtain ⟨t233, A30, H⟩ := H
 try dsimp only at H
 have A3 := aS A30
 clear A30
 by_cases c4 : t233 ≤ (l0.length : Int)
 ·rw [if_pos c4] at H
  have c4b0 : decide (t233 ≤ (l0.length : Int)) = true := decide_eq_true c4
  clear c4
  obtain ⟨c5, H⟩ := ifS H
  have c5b0 := eq_true c5
  have c5b1 : decide (0 ≤ t233) = true := decide_eq_true c5
  clear c5
  have c6b0 := eq_true (dA : t233 ≤ (l0.length : Int))
  obtain ⟨y234, hy234⟩ : ∃ y_ : List (S40), y_ = (l0.take (t233 : Int).toNat) := ⟨_, rfl⟩
  replace H : ((line_Mend.f y234).bind fun t238 => (some t238)) = some r := rq hy234 H
  have Ny234 := aS hy234
  clear hy234
  replace H := Option.bind_eq_some_iff.mp H
  obtain ⟨t238, A70, H⟩ := H
  try dsimp only at H
  have A7 := aS A70
  clear A70
  obtain rfl := Option.some.inj H
  go_enter Tryz.func61, Tryz.ntmps61
  go_wp2_with (first | (refine gL 54 6 Tryz.func54 #[.int .i64 a1] ?_; (with_reducible refine (line_length.calls a1 t233 _ A3.out).mono ?_); rintro e w8 ⟨rfl, hb⟩; refine ⟨_, rfl, ?_⟩; replace HB := aS (below_step bB hb); (try clear hb); (try clear hb2); (try clear hk); (try clear hi); have q9 : (t233 : Int) ≤ ((l0.length : Int) : Int) := dA; obtain ⟨i09, hi09, _, hsz9, _⟩ := info_parts info40; have hroom9 : l0.length ≤ c0 := HC0.out; have hC9 : Kd.C k40 _ A0 l0.length l0 := HR0.out; have hcut9 := cut_to (P := Tryz.prog) 41 40 .i64 Tryz.underlying41 hi09 A0 l0.length c0 t233 (dA) q9 hroom9; have hr9 := Kd.C_take (m := (t233 : Int).toNat) hC9 (by omega); have hy9 : y234.length = (t233 : Int).toNat := (by rw [Ny234.out, List.length_take]; omega); rw [← Ny234.out] at hr9; rw [← hy9] at hcut9; have HR237 := aS hr9; have HC237 := aS (show y234.length ≤ c0 from by omega); clear hr9 hC9 hroom9 hi09 hsz9; have KY9 := aS hy9; clear hy9; replace q9 := eq_true q9) | (refine gL 92 14 Tryz.func92 #[.slice A0 y234.length c0] ?_; (with_reducible refine (line_Mend.calls _ _ y234 t238 _ ?side1 ?side2 A7.out).mono ?_); (case side1 => repeat (first | exact (Kd.C_below HR237.out HB.out) | (with_reducible refine Kd.C_alloc ?_ _) | (with_reducible refine Kd.C_drewN ?_ _) | (with_reducible refine Kd.C_drew ?_))); (case side2 => exact HC237.out); rintro e w10 ⟨v239, rfl, ho0, hb⟩; refine ⟨_, rfl, ?_⟩; have HO240 := aS (Kd.R_lower ho0 (below_size bB)); replace HB := aS (below_step bB hb); (try clear hb); (try clear hb2); (try clear hk); (try clear hi); (try clear ho0)))
  go_ret
  exact ⟨_, by first | rfl | (simp <;> rfl) | (simp [*] <;> rfl), rr HO240, bB⟩
 ·rw [if_neg c4] at H
  have c4b0 : decide (t233 ≤ (l0.length : Int)) = false := decide_eq_false c4
  clear c4
  replace H := Option.bind_eq_some_iff.mp H
  obtain ⟨t241, A110, H⟩ := H
  try dsimp only at H
  have A11 := aS A110
  clear A110
  replace H := Option.bind_eq_some_iff.mp H
  obtain ⟨t244, A120, H⟩ := H
  try dsimp only at H
  have A12 := aS A120
  clear A120
  obtain ⟨c13, H⟩ := ifS H
  have LMc13 := aS c13
  clear c13
  obtain ⟨y247, hy247⟩ : ∃ y_ : List (S40), y_ = (t241 ++ t244) := ⟨_, rfl⟩
  replace H : ((line_Mend.f y247).bind fun t250 => (some t250)) = some r := rq hy247 H
  have Ny247 := aS hy247
  clear hy247
  replace H := Option.bind_eq_some_iff.mp H
  obtain ⟨t250, A140, H⟩ := H
  try dsimp only at H
  have A14 := aS A140
  clear A140
  obtain rfl := Option.some.inj H
  go_enter Tryz.func61, Tryz.ntmps61
  go_wp2_with (first | (refine gL 54 6 Tryz.func54 #[.int .i64 a1] ?_; (with_reducible refine (line_length.calls a1 t233 _ A3.out).mono ?_); rintro e w15 ⟨rfl, hb⟩; refine ⟨_, rfl, ?_⟩; replace HB := aS (below_step bB hb); (try clear hb); (try clear hb2); (try clear hk); (try clear hi)) | (refine gL 52 16 Tryz.func52 #[.slice A0 l0.length c0] ?_; (with_reducible refine (cell_Cell_52.calls _ _ l0 t241 _ ?side1 ?side2 A11.out).mono ?_); (case side1 => repeat (first | exact (Kd.C_below HR0.out HB.out) | (with_reducible refine Kd.C_alloc ?_ _) | (with_reducible refine Kd.C_drewN ?_ _) | (with_reducible refine Kd.C_drew ?_))); (case side2 => exact HC0.out); rintro e w16 ⟨v242, rfl, ho0, hb⟩; refine ⟨_, rfl, ?_⟩; have HO243 := aS (Kd.R_lower ho0 (below_size bB)); replace HB := aS (below_step bB hb); (try clear hb); (try clear hb2); (try clear hk); (try clear hi); (try clear ho0)) | (refine gL 53 22 Tryz.func53 #[.int .i64 (wrap64 (t233 - (l0.length : Int))), .agg #[.int .u8 0, .int .u8 0, .int .u8 0]] ?_; (with_reducible refine (line_blanks.calls k (wrap64 (t233 - (l0.length : Int))) 0 0 0 t244 _ A12.out).mono ?_); rintro e w17 ⟨v245, rfl, ho0, hb⟩; refine ⟨_, rfl, ?_⟩; have HO246 := aS (Kd.R_lower (Kd.R_new' ho0 (Kd.R_lt (rr HO243))) (below_size bB)); replace HO243 := aS (Kd.R_elder' (rr HO243) (Kd.R_base ho0) hb); replace HB := aS (below_step bB hb); (try clear hb); (try clear hb2); (try clear hk); (try clear hi); (try clear ho0); obtain ⟨Ao19, co19, eo19⟩ := Kd.R_slice HO246.out; subst eo19) | ((with_reducible refine gate_builtin (b := .append) (xs := #[.tmp 16, .tmp 22]) rfl ?_); at_builtin; refine Kd.R_append_rows k40 (w0 := w) w.heap.size rfl (.tmp 16) (.tmp 22) 41 40 (.agg #[(.int .i32 0), (.int .i32 0), (.int .i32 0), (.int .u8 0), (.int .u8 0), (.int .u8 0), (.int .u8 0)]) 16 rfl Tryz.underlying41 info40 rfl (by decide) (by omega) v242 t241 t244 _ _ _ (fun k_ => some k_ ≠ (.slice Ao19 t244.length co19 : Value).ownBlock) (fun _ => False) rfl rfl ?aO ?aR (fun _ _ h => h) (fun _ h => h.elim) ?aF ?aB ?aS ?aL ?_; (case aR => exact rC (Kd.R_reads' HO246.out)); (case aB => exact bB); (case aF => exact (fun k_ hk => Kd.fresh' (Kd.R_lt (rr HO246)) k_ hk)); (case aO => exact (by (with_reducible repeat (first | apply rA | apply rN | apply rD)); exact Kd.R_mono HO243.out (fun _ hk => hk.2))); (case aS => exact (below_size bB)); (case aL => have := LMc13.out; omega); intro v248 w18 ho hb hg hat; rw [← Ny247.out] at ho; replace HO246 := aS (Kd.R_after (ok := (fun _ => True)) (rr HO246) hg hat); replace HB := aS (hb); have HO249 := aS (ho); clear HO243; clear ho hb hg hat; obtain ⟨Ao20, co20, eo20⟩ := Kd.R_slice HO249.out; subst eo20) | (refine gL 92 24 Tryz.func92 #[.slice Ao20 y247.length co20] ?_; (with_reducible refine (line_Mend.calls _ _ y247 t250 _ ?side1 ?side2 A14.out).mono ?_); (case side1 => exact rC (Kd.R_reads' HO249.out)); (case side2 => exact (Kd.R_reads' HO249.out).2.1); rintro e w21 ⟨v251, rfl, ho0, hb⟩; refine ⟨_, rfl, ?_⟩; have HO252 := aS (Kd.R_lower (Kd.R_new' (Kd.R_new' ho0 (Kd.R_lt (rr HO246))) (Kd.R_lt (rr HO249))) (below_size bB)); replace HO246 := aS (Kd.R_elder' (rr HO246) (Kd.R_base ho0) hb); replace HO249 := aS (Kd.R_elder' (rr HO249) (Kd.R_base ho0) hb); replace HB := aS (below_step bB hb); (try clear hb); (try clear hb2); (try clear hk); (try clear hi); (try clear ho0)))
  go_ret
  exact ⟨_, by first | rfl | (simp <;> rfl) | (simp [*] <;> rfl), by (with_reducible repeat (first | apply rA | apply rN | apply rD)); exact Kd.R_mono HO252.out (fun _ hk => trivial), bB⟩
def line_Used.l0 : Nat → List (S40) → Int → Option (Int)
 | 0, _, _ => none
 | k + 1, x0, x3 => if x3 > 0 then (if 0 ≤ (wrap64 (x3 - 1)) then (if (wrap64 (x3 - 1)) < (x0.length : Int) then ((cell_Blank.f 0 0 0).bind fun bt254 => (if (((rd_T40 x0 (wrap64 (x3 - 1))).f0) == bt254.1 && ((((rd_T40 x0 (wrap64 (x3 - 1))).f1.f0) == bt254.2.1 && (((rd_T40 x0 (wrap64 (x3 - 1))).f1.f1) == bt254.2.2.1)) && (((rd_T40 x0 (wrap64 (x3 - 1))).f2) == bt254.2.2.2.1 && ((((rd_T40 x0 (wrap64 (x3 - 1))).f3.f0) == bt254.2.2.2.2.1 && (((rd_T40 x0 (wrap64 (x3 - 1))).f3.f1) == bt254.2.2.2.2.2.1 && (((rd_T40 x0 (wrap64 (x3 - 1))).f3.f2) == bt254.2.2.2.2.2.2))))))) = true then (line_Used.l0 k x0 (wrap64 (x3 - 1))) else (some x3))) else (none)) else (none)) else (some x3)
def line_Used.f (k : Nat) (l0 : List (S40)) : Option (Int) := line_Used.l0 k l0 (l0.length : Int)
def line_Used.T2 : Bool × List (List Nat × List Nat) := (true, [([], []), ([0], [0]), ([1], [1]), ([2], [2]), ([2], [2]), ([4, 2], [2, 4]), ([3, 5, 2], [2, 3, 5]), ([6, 2], [2, 6]), ([2], [2]), ([8, 2, 2], [2, 8]), ([7, 9, 2], [2, 7, 9]), ([2, 10], [2, 10])])
def line_Used.B2 : List Nat := [0, 1, 3, 7, 7, 23, 63, 127, 7, 263, 1023, 2047]
theorem line_Used.tab2 : rtab .any (opsOf Tryz.f28 2) = line_Used.T2 := by kernel_rfl
theorem line_Used.bits2 : waitsOk line_Used.T2.2 line_Used.B2 = true := by kernel_rfl
set_option maxHeartbeats 8000000 in
set_option maxRecDepth 100000 in
theorem line_Used.calls (k : Nat) (A0 : Option Addr) (c0 : Nat) (l0 : List (S40)) (r : Int) (w : World) (hr0 : Kd.C k40 w A0 l0.length l0) (hc0 : l0.length ≤ c0) (h : line_Used.f k l0 = some r) :
 Calls Tryz.prog 28 #[.slice A0 l0.length c0] w fun e w' => e = .returned (.int .i64 r) ∧ Below w.heap.size w w' := by
 have hu40 := Tryz.underlying40
 have hu38 := Tryz.underlying38
 have HR0 := aS hr0
 have HC0 := aS hc0
 clear hr0 hc0
 have HB := aS (Below.refl w.heap.size w)
 have H : (line_Used.l0 k l0 (l0.length : Int)) = some r := h
 clear h
 have H' := aS H
 clear H
 go_enter Tryz.func28, Tryz.ntmps28
 go_wp2
 go_loopg [3] k (fun kq v3 w' => ∃ (x3_1 : Int), v3 = .int .i64 x3_1 ∧ Aside0 (line_Used.l0 kq l0 x3_1 = some r) ∧ Aside0 (kq ≤ k) ∧ Aside0 (Below w.heap.size w w'))
 case atStart => exact ⟨((l0.length : Int)), fS, H', ⟨Nat.le_refl _⟩, ⟨bB⟩⟩
 case round =>
  clear H'
  obtain ⟨x3_1, rfl, HA, HK1, HB⟩ := hrel
  cases gk with
  | zero => exact absurd HA.out (by simp [line_Used.l0])
  | succ k1 =>
   have H := HA.out
   clear HA
   simp only [line_Used.l0] at H
   by_cases c2 : x3_1 > 0
   ·rw [if_pos c2] at H
    have c2b0 : decide (0 < x3_1) = true := decide_eq_true c2
    clear c2
    obtain ⟨ji3, hji3⟩ : ∃ j_ : Int, (wrap64 (x3_1 - 1)) = j_ := ⟨_, rfl⟩
    replace H : (if 0 ≤ (ji3) then (if (ji3) < (l0.length : Int) then ((cell_Blank.f 0 0 0).bind fun bt254 => (if (((rd_T40 l0 (ji3)).f0) == bt254.1 && ((((rd_T40 l0 (ji3)).f1.f0) == bt254.2.1 && (((rd_T40 l0 (ji3)).f1.f1) == bt254.2.2.1)) && (((rd_T40 l0 (ji3)).f2) == bt254.2.2.2.1 && ((((rd_T40 l0 (ji3)).f3.f0) == bt254.2.2.2.2.1 && (((rd_T40 l0 (ji3)).f3.f1) == bt254.2.2.2.2.2.1 && (((rd_T40 l0 (ji3)).f3.f2) == bt254.2.2.2.2.2.2))))))) = true then (line_Used.l0 k1 l0 ji3) else (some x3_1))) else (none)) else (none)) = some r := by first | (rw [hji3] at H; exact H) | (simp only [hji3] at H ⊢; exact H)
    have hji3w : (IntKind.i64.wrap (x3_1 - 1)) = ji3 := (i64_w _).trans hji3
    obtain ⟨c4, H⟩ := ifS H
    have c4b0 : decide (0 ≤ (ji3)) = true := decide_eq_true c4
    clear c4
    obtain ⟨c5, H⟩ := ifS H
    have c5b0 : decide ((ji3) < (l0.length : Int)) = true := decide_eq_true c5
    clear c5
    replace H := Option.bind_eq_some_iff.mp H
    obtain ⟨⟨t254, t255, t256, t257, t258, t259, t260⟩, A60, H⟩ := H
    try dsimp only at H
    have A6 := aS A60
    clear A60
    by_cases c7 : (((rd_T40 l0 (ji3)).f0) == t254 && ((((rd_T40 l0 (ji3)).f1.f0) == t255 && (((rd_T40 l0 (ji3)).f1.f1) == t256)) && (((rd_T40 l0 (ji3)).f2) == t257 && ((((rd_T40 l0 (ji3)).f3.f0) == t258 && (((rd_T40 l0 (ji3)).f3.f1) == t259 && (((rd_T40 l0 (ji3)).f3.f2) == t260))))))) = true
    ·rw [if_pos c7] at H
     have c7b0 : (((rd_T40 l0 (ji3)).f0) == t254 && ((((rd_T40 l0 (ji3)).f1.f0) == t255 && (((rd_T40 l0 (ji3)).f1.f1) == t256)) && (((rd_T40 l0 (ji3)).f2) == t257 && ((((rd_T40 l0 (ji3)).f3.f0) == t258 && (((rd_T40 l0 (ji3)).f3.f1) == t259 && (((rd_T40 l0 (ji3)).f3.f2) == t260))))))) = true := c7
     (try (have c7b1 : decide (((rd_T40 l0 (ji3)).f0) = t254 && ((((rd_T40 l0 (ji3)).f1.f0) == t255 && (((rd_T40 l0 (ji3)).f1.f1) == t256)) && (((rd_T40 l0 (ji3)).f2) == t257 && ((((rd_T40 l0 (ji3)).f3.f0) == t258 && (((rd_T40 l0 (ji3)).f3.f1) == t259 && (((rd_T40 l0 (ji3)).f3.f2) == t260))))))) = true := by simpa using c7))
     (try (have c7b2 : (((rd_T40 l0 (ji3)).f0) == t254 && ((((rd_T40 l0 (ji3)).f1.f0) == t255 && (((rd_T40 l0 (ji3)).f1.f1) == t256)) && (((rd_T40 l0 (ji3)).f2) == t257 && ((((rd_T40 l0 (ji3)).f3.f0) == t258 && (((rd_T40 l0 (ji3)).f3.f1) == t259 && (((rd_T40 l0 (ji3)).f3.f2) == t260))))))) = true := by simpa using c7))
     clear c7
     have H' := aS H
     clear H
     try go_wp2
     replace HB := aS (below_drew1 HB.out)
     have p253 : 0 ≤ ((ji3) : Int) := dA
     have q253 : (ji3) < (l0.length : Int) := dA
     obtain ⟨ad253, e253, hx253_0, hx253_1, hx253_2, hx253_3, hx253_4, hx253_5, hx253_6⟩ := at_T40 HR0.out (ji3) p253 q253
     have hw253_6 := hx253_6
     have hw253_5 := hx253_5
     have hw253_4 := hx253_4
     have hw253_3 := hx253_3
     have hw253_2 := hx253_2
     have hw253_1 := hx253_1
     have hw253_0 := hx253_0
     cases e253
     replace hx253_0 := xc HB hx253_0
     replace hx253_1 := xc HB hx253_1
     replace hx253_2 := xc HB hx253_2
     replace hx253_3 := xc HB hx253_3
     replace hx253_4 := xc HB hx253_4
     replace hx253_5 := xc HB hx253_5
     replace hx253_6 := xc HB hx253_6
     replace p253 := eq_true p253
     replace q253 := eq_true q253
     refine start_ (n := 12) (S := fun w' => w'.cell? (ad253.add (((ji3)).toNat * 7)) = some (.int .i32 ((rd_T40 l0 (ji3)).f0)) ∧ w'.cell? ⟨(ad253.add (((ji3)).toNat * 7)).block, (ad253.add (((ji3)).toNat * 7)).off + 1, none⟩ = some (.int .i32 ((rd_T40 l0 (ji3)).f1.f0)) ∧ w'.cell? ⟨(ad253.add (((ji3)).toNat * 7)).block, (ad253.add (((ji3)).toNat * 7)).off + 2, none⟩ = some (.int .i32 ((rd_T40 l0 (ji3)).f1.f1)) ∧ w'.cell? ⟨(ad253.add (((ji3)).toNat * 7)).block, (ad253.add (((ji3)).toNat * 7)).off + 3, none⟩ = some (.int .u8 ((rd_T40 l0 (ji3)).f2)) ∧ w'.cell? ⟨(ad253.add (((ji3)).toNat * 7)).block, (ad253.add (((ji3)).toNat * 7)).off + 4, none⟩ = some (.int .u8 ((rd_T40 l0 (ji3)).f3.f0)) ∧ w'.cell? ⟨(ad253.add (((ji3)).toNat * 7)).block, (ad253.add (((ji3)).toNat * 7)).off + 5, none⟩ = some (.int .u8 ((rd_T40 l0 (ji3)).f3.f1)) ∧ w'.cell? ⟨(ad253.add (((ji3)).toNat * 7)).block, (ad253.add (((ji3)).toNat * 7)).off + 6, none⟩ = some (.int .u8 ((rd_T40 l0 (ji3)).f3.f2))) (ds := []) (tb 12 0) (by kernel_rfl) rfl rfl ⟨(xc HB hw253_0), (xc HB hw253_1), (xc HB hw253_2), (xc HB hw253_3), (xc HB hw253_4), (xc HB hw253_5), (xc HB hw253_6)⟩ (fun hHeld => ?_); refine with_tabW line_Used.tab2 line_Used.bits2 (fun HT_ HW_ => ?_)
     generalize wr.drew = w8 at HB hx253_0 hx253_1 hx253_2 hx253_3 hx253_4 hx253_5 hx253_6 hHeld ⊢
     refine tp 0 (some 6) (tb 12 1) ?_
     refine tp 1 (some 7) (tb 12 3) ?_
     refine tp 2 (some 8) (tb 12 7) ?_
     refine tp 3 (some 9) (tb 12 15) ?_
     refine tp 4 (some 10) (tb 12 31) ?_
     refine tp 5 (some 11) (tb 12 63) ?_
     refine tp 6 (some 12) (tb 12 127) ?_
     refine tp 8 (some 14) (tb 12 383) ?_
     refine tk 7 (some 13) (tb 12 511) ?_
     refine st1 9 (some 15) (tb 12 1023) (fun K hK => ?_)
     refine gO Tryz.func62 #[.agg #[.int .u8 0, .int .u8 0, .int .u8 0]] ?_
     with_reducible refine (cell_Blank.calls 0 0 0 t254 t255 t256 t257 t258 t259 t260 _ A6.out).mono ?_
     rintro e w9 ⟨rfl, hb⟩
     refine ⟨_, rfl, ?_⟩
     replace HB := aS (below_step bB hb)
     (try clear hb)
     (try clear hb2)
     (try clear hk)
     (try clear hi)
     refine hK.out _ _ ⟨(xc HB hw253_0), (xc HB hw253_1), (xc HB hw253_2), (xc HB hw253_3), (xc HB hw253_4), (xc HB hw253_5), (xc HB hw253_6)⟩ (fun hHeld => ?_)
     clear hK K
     refine nm ?_
     refine tp 10 (some 16) (tb 12 2047) ?_
     refine tp 11 (some 17) (tb 12 4095) ?_
     refine done_ (done_of HT_.out (by kernel_rfl)) ?_
     try go_wp2
     go_roundg k1
     case measure => have := HK1.out; omega
     case rel => exact ⟨(ji3), (by first | rfl | (simp; done) | (simp only [← hji3] <;> (first | rfl | simp)) | (simp [*]; done)), H', ⟨by have := HK1.out; omega⟩, ⟨bB⟩⟩
    ·rw [if_neg c7] at H
     have c7b0 : (((rd_T40 l0 (ji3)).f0) == t254 && ((((rd_T40 l0 (ji3)).f1.f0) == t255 && (((rd_T40 l0 (ji3)).f1.f1) == t256)) && (((rd_T40 l0 (ji3)).f2) == t257 && ((((rd_T40 l0 (ji3)).f3.f0) == t258 && (((rd_T40 l0 (ji3)).f3.f1) == t259 && (((rd_T40 l0 (ji3)).f3.f2) == t260))))))) = false := by simpa using c7
     (try (have c7b1 : decide (((rd_T40 l0 (ji3)).f0) = t254 && ((((rd_T40 l0 (ji3)).f1.f0) == t255 && (((rd_T40 l0 (ji3)).f1.f1) == t256)) && (((rd_T40 l0 (ji3)).f2) == t257 && ((((rd_T40 l0 (ji3)).f3.f0) == t258 && (((rd_T40 l0 (ji3)).f3.f1) == t259 && (((rd_T40 l0 (ji3)).f3.f2) == t260))))))) = false := by simpa using c7))
     (try (have c7b2 : (((rd_T40 l0 (ji3)).f0) == t254 && ((((rd_T40 l0 (ji3)).f1.f0) == t255 && (((rd_T40 l0 (ji3)).f1.f1) == t256)) && (((rd_T40 l0 (ji3)).f2) == t257 && ((((rd_T40 l0 (ji3)).f3.f0) == t258 && (((rd_T40 l0 (ji3)).f3.f1) == t259 && (((rd_T40 l0 (ji3)).f3.f2) == t260))))))) = false := by simpa using c7))
     (try (have c7b3 : ¬ (((rd_T40 l0 (ji3)).f0) = t254 && ((((rd_T40 l0 (ji3)).f1.f0) == t255 && (((rd_T40 l0 (ji3)).f1.f1) == t256)) && (((rd_T40 l0 (ji3)).f2) == t257 && ((((rd_T40 l0 (ji3)).f3.f0) == t258 && (((rd_T40 l0 (ji3)).f3.f1) == t259 && (((rd_T40 l0 (ji3)).f3.f2) == t260))))))) := by simpa using c7))
     clear c7
     obtain rfl := Option.some.inj H
     try go_wp2
     replace HB := aS (below_drew1 HB.out)
     have p253 : 0 ≤ ((ji3) : Int) := dA
     have q253 : (ji3) < (l0.length : Int) := dA
     obtain ⟨ad253, e253, hx253_0, hx253_1, hx253_2, hx253_3, hx253_4, hx253_5, hx253_6⟩ := at_T40 HR0.out (ji3) p253 q253
     have hw253_6 := hx253_6
     have hw253_5 := hx253_5
     have hw253_4 := hx253_4
     have hw253_3 := hx253_3
     have hw253_2 := hx253_2
     have hw253_1 := hx253_1
     have hw253_0 := hx253_0
     cases e253
     replace hx253_0 := xc HB hx253_0
     replace hx253_1 := xc HB hx253_1
     replace hx253_2 := xc HB hx253_2
     replace hx253_3 := xc HB hx253_3
     replace hx253_4 := xc HB hx253_4
     replace hx253_5 := xc HB hx253_5
     replace hx253_6 := xc HB hx253_6
     replace p253 := eq_true p253
     replace q253 := eq_true q253
     refine start_ (n := 12) (S := fun w' => w'.cell? (ad253.add (((ji3)).toNat * 7)) = some (.int .i32 ((rd_T40 l0 (ji3)).f0)) ∧ w'.cell? ⟨(ad253.add (((ji3)).toNat * 7)).block, (ad253.add (((ji3)).toNat * 7)).off + 1, none⟩ = some (.int .i32 ((rd_T40 l0 (ji3)).f1.f0)) ∧ w'.cell? ⟨(ad253.add (((ji3)).toNat * 7)).block, (ad253.add (((ji3)).toNat * 7)).off + 2, none⟩ = some (.int .i32 ((rd_T40 l0 (ji3)).f1.f1)) ∧ w'.cell? ⟨(ad253.add (((ji3)).toNat * 7)).block, (ad253.add (((ji3)).toNat * 7)).off + 3, none⟩ = some (.int .u8 ((rd_T40 l0 (ji3)).f2)) ∧ w'.cell? ⟨(ad253.add (((ji3)).toNat * 7)).block, (ad253.add (((ji3)).toNat * 7)).off + 4, none⟩ = some (.int .u8 ((rd_T40 l0 (ji3)).f3.f0)) ∧ w'.cell? ⟨(ad253.add (((ji3)).toNat * 7)).block, (ad253.add (((ji3)).toNat * 7)).off + 5, none⟩ = some (.int .u8 ((rd_T40 l0 (ji3)).f3.f1)) ∧ w'.cell? ⟨(ad253.add (((ji3)).toNat * 7)).block, (ad253.add (((ji3)).toNat * 7)).off + 6, none⟩ = some (.int .u8 ((rd_T40 l0 (ji3)).f3.f2))) (ds := []) (tb 12 0) (by kernel_rfl) rfl rfl ⟨(xc HB hw253_0), (xc HB hw253_1), (xc HB hw253_2), (xc HB hw253_3), (xc HB hw253_4), (xc HB hw253_5), (xc HB hw253_6)⟩ (fun hHeld => ?_); refine with_tabW line_Used.tab2 line_Used.bits2 (fun HT_ HW_ => ?_)
     generalize wr.drew = w10 at HB hx253_0 hx253_1 hx253_2 hx253_3 hx253_4 hx253_5 hx253_6 hHeld ⊢
     refine tp 0 (some 6) (tb 12 1) ?_
     refine tp 1 (some 7) (tb 12 3) ?_
     refine tp 2 (some 8) (tb 12 7) ?_
     refine tp 3 (some 9) (tb 12 15) ?_
     refine tp 4 (some 10) (tb 12 31) ?_
     refine tp 5 (some 11) (tb 12 63) ?_
     refine tp 6 (some 12) (tb 12 127) ?_
     refine tp 8 (some 14) (tb 12 383) ?_
     refine tk 7 (some 13) (tb 12 511) ?_
     refine st1 9 (some 15) (tb 12 1023) (fun K hK => ?_)
     refine gO Tryz.func62 #[.agg #[.int .u8 0, .int .u8 0, .int .u8 0]] ?_
     with_reducible refine (cell_Blank.calls 0 0 0 t254 t255 t256 t257 t258 t259 t260 _ A6.out).mono ?_
     rintro e w11 ⟨rfl, hb⟩
     refine ⟨_, rfl, ?_⟩
     replace HB := aS (below_step bB hb)
     (try clear hb)
     (try clear hb2)
     (try clear hk)
     (try clear hi)
     refine hK.out _ _ ⟨(xc HB hw253_0), (xc HB hw253_1), (xc HB hw253_2), (xc HB hw253_3), (xc HB hw253_4), (xc HB hw253_5), (xc HB hw253_6)⟩ (fun hHeld => ?_)
     clear hK K
     refine nm ?_
     refine tp 10 (some 16) (tb 12 2047) ?_
     refine tp 11 (some 17) (tb 12 4095) ?_
     refine done_ (done_of HT_.out (by kernel_rfl)) ?_
     try go_wp2
     go_ret
     exact ⟨by first | rfl | (simp <;> rfl) | (simp only [← hji3]; first | rfl | (simp <;> rfl)) | (simp [*] <;> rfl), bB⟩
   ·rw [if_neg c2] at H
    have c2b0 : decide (0 < x3_1) = false := decide_eq_false c2
    clear c2
    obtain rfl := Option.some.inj H
    try go_wp2
    replace HB := aS (below_drew1 HB.out)
    refine start_ (n := 12) (S := fun w' => True) (ds := []) (tb 12 0) (by kernel_rfl) rfl rfl trivial (fun hHeld => ?_); refine with_tabW line_Used.tab2 line_Used.bits2 (fun HT_ HW_ => ?_)
    generalize wr.drew = w12 at HB hHeld ⊢
    refine tp 0 (some 6) (tb 12 1) ?_
    refine tp 1 (some 7) (tb 12 3) ?_
    refine tp 2 (some 8) (tb 12 7) ?_
    refine pure_ (i := 3) (N := some 9) (v := undef) (a' := ?_) (tb 12 15) rfl rfl (any_of HT_.out (by kernel_rfl)) (fun _ _ _ h => h) (Or.inr ⟨by rfl, rfl⟩) ?_ ?_
    rotate_left
    ·simp only [Act.put, List.setIfInBounds_toArray, List.set_cons_zero, List.set_cons_succ, i64_w, i32_w]
     rfl
    refine pure_ (i := 4) (N := some 10) (v := undef) (a' := ?_) (tb 12 31) rfl rfl (any_of HT_.out (by kernel_rfl)) (fun _ _ _ h => h) (Or.inr ⟨by rfl, rfl⟩) ?_ ?_
    rotate_left
    ·simp only [Act.put, List.setIfInBounds_toArray, List.set_cons_zero, List.set_cons_succ, i64_w, i32_w]
     rfl
    refine pure_ (i := 5) (N := some 11) (v := undef) (a' := ?_) (tb 12 63) rfl rfl (any_of HT_.out (by kernel_rfl)) (fun _ _ _ h => h) (Or.inr ⟨by rfl, rfl⟩) ?_ ?_
    rotate_left
    ·simp only [Act.put, List.setIfInBounds_toArray, List.set_cons_zero, List.set_cons_succ, i64_w, i32_w]
     rfl
    refine pure_ (i := 6) (N := some 12) (v := undef) (a' := ?_) (tb 12 127) rfl rfl (any_of HT_.out (by kernel_rfl)) (fun _ _ _ h => h) (Or.inr ⟨by rfl, rfl⟩) ?_ ?_
    rotate_left
    ·simp only [Act.put, List.setIfInBounds_toArray, List.set_cons_zero, List.set_cons_succ, i64_w, i32_w]
     rfl
    refine pure_ (i := 7) (N := some 13) (v := undef) (a' := ?_) (tb 12 255) rfl rfl (any_of HT_.out (by kernel_rfl)) (fun _ _ _ h => h) (Or.inr ⟨by rfl, rfl⟩) ?_ ?_
    rotate_left
    ·simp only [Act.put, List.setIfInBounds_toArray, List.set_cons_zero, List.set_cons_succ, i64_w, i32_w]
     rfl
    refine pure_ (i := 8) (N := some 14) (v := undef) (a' := ?_) (tb 12 511) rfl rfl (any_of HT_.out (by kernel_rfl)) (fun _ _ _ h => h) (Or.inr ⟨by rfl, rfl⟩) ?_ ?_
    rotate_left
    ·simp only [Act.put, List.setIfInBounds_toArray, List.set_cons_zero, List.set_cons_succ, i64_w, i32_w]
     rfl
    refine pure_ (i := 9) (N := some 15) (v := undef) (a' := ?_) (tb 12 1023) rfl rfl (any_of HT_.out (by kernel_rfl)) (fun _ _ _ h => h) (Or.inr ⟨by rfl, rfl⟩) ?_ ?_
    rotate_left
    ·simp only [Act.put, List.setIfInBounds_toArray, List.set_cons_zero, List.set_cons_succ, i64_w, i32_w]
     rfl
    refine pure_ (i := 10) (N := some 16) (v := undef) (a' := ?_) (tb 12 2047) rfl rfl (any_of HT_.out (by kernel_rfl)) (fun _ _ _ h => h) (Or.inr ⟨by rfl, rfl⟩) ?_ ?_
    rotate_left
    ·simp only [Act.put, List.setIfInBounds_toArray, List.set_cons_zero, List.set_cons_succ, i64_w, i32_w]
     rfl
    refine tp 11 (some 17) (tb 12 4095) ?_
    refine done_ (done_of HT_.out (by kernel_rfl)) ?_
    try go_wp2
    go_ret
    exact ⟨by first | rfl | (simp <;> rfl) | (simp [*] <;> rfl), bB⟩
def prolepsisref06_length.f (a0 : Int) : Option (Int) := if a0 < 0 then (some 0) else (if a0 > 512 then (some 512) else (some a0))
set_option maxHeartbeats 8000000 in
set_option maxRecDepth 100000 in
theorem prolepsisref06_length.calls (a0 : Int) (r : Int) (w : World) (h : prolepsisref06_length.f a0 = some r) :
 Calls Tryz.prog 63 #[.int .i64 a0] w fun e w' => e = .returned (.int .i64 r) ∧ Drawn0 w w' := by
 have H : (if a0 < 0 then (some 0) else (if a0 > 512 then (some 512) else (some a0))) = some r := h
 clear h
 by_cases c2 : a0 < 0
 ·rw [if_pos c2] at H
  have c2b0 : decide (a0 < 0) = true := decide_eq_true c2
  clear c2
  obtain rfl := Option.some.inj H
  go_enter Tryz.func63, Tryz.ntmps63
  go_wp2
  go_ret
  exact ⟨by first | rfl | (simp; done) | (simp [*]; done), by repeat (first | exact Drawn0.refl _ | apply Drawn0.step)⟩
 ·rw [if_neg c2] at H
  have c2b0 : decide (a0 < 0) = false := decide_eq_false c2
  clear c2
  by_cases c3 : a0 > 512
  ·rw [if_pos c3] at H
   have c3b0 : decide (512 < a0) = true := decide_eq_true c3
   clear c3
   obtain rfl := Option.some.inj H
   go_enter Tryz.func63, Tryz.ntmps63
   go_wp2
   go_ret
   exact ⟨by first | rfl | (simp; done) | (simp [*]; done), by repeat (first | exact Drawn0.refl _ | apply Drawn0.step)⟩
  ·rw [if_neg c3] at H
   have c3b0 : decide (512 < a0) = false := decide_eq_false c3
   clear c3
   obtain rfl := Option.some.inj H
   go_enter Tryz.func63, Tryz.ntmps63
   go_wp2
   go_ret
   exact ⟨by first | rfl | (simp; done) | (simp [*]; done), by repeat (first | exact Drawn0.refl _ | apply Drawn0.step)⟩
def prolepsisref05_Blank.f (a0_0 : Int) (a0_1 : Int) (a0_2 : Int) : Option (Int × Int × Int × Int × Int × Int × Int) := some (32, 0, 0, 1, a0_0, a0_1, a0_2)
set_option maxHeartbeats 8000000 in
set_option maxRecDepth 100000 in
theorem prolepsisref05_Blank.calls (a0_0 : Int) (a0_1 : Int) (a0_2 : Int) (r1 : Int) (r2 : Int) (r3 : Int) (r4 : Int) (r5 : Int) (r6 : Int) (r7 : Int) (w : World) (h : prolepsisref05_Blank.f a0_0 a0_1 a0_2 = some (r1, r2, r3, r4, r5, r6, r7)) :
 Calls Tryz.prog 64 #[.agg #[.int .u8 a0_0, .int .u8 a0_1, .int .u8 a0_2]] w fun e w' => e = .returned (.agg #[.int .i64 r1, .int .i64 r2, .int .i64 r3, .int .u8 r4, .int .u8 r5, .int .u8 r6, .int .u8 r7]) ∧ Below w.heap.size w w' := by
 have hu50 := Tryz.underlying50
 have hu52 := Tryz.underlying52
 have HB := aS (Below.refl w.heap.size w)
 have H : (some (32, 0, 0, 1, a0_0, a0_1, a0_2)) = some (r1, r2, r3, r4, r5, r6, r7) := h
 clear h
 simp only [Option.some.injEq, Prod.mk.injEq] at H
 obtain ⟨rfl, rfl, rfl, rfl, rfl, rfl, rfl⟩ := H
 go_enter Tryz.func64, Tryz.ntmps64
 go_wp2_with (first | (refine bx 1 #[.int .u8 a0_0, .int .u8 a0_1, .int .u8 a0_2] 50 ?_; intro gb261 hg w2 hbox hb; have BK261 := aS (hbox); have GW261 := aS (gw HB hg); have GE261 := aS (gw HB hg); replace HB := aS (below_step bB hb); clear hb hbox hg) | (refine bx 2 #[.int .i64 0, .int .i64 0, .int .i64 0, .int .u8 0, .int .u8 0, .int .u8 0, .int .u8 0] 52 ?_; intro gb262 hg w3 hbox hb; have BK262 := aS (hbox); have GW262 := aS (gw HB hg); have GE262 := aS (gw HB hg); replace HB := aS (below_step bS hb); have NB261_262 := aS ((by rw [hg]; exact Nat.ne_of_lt (blk_lt (kb BK261)) : gb261 ≠ gb262)); have NB262_261 := aS ((by rw [hg]; exact Nat.ne_of_gt (blk_lt (kb BK261)) : gb262 ≠ gb261)); replace BK261 := aS (blk_below (kb BK261) hb); clear hb hbox hg; have hnb4 := NB261_262.out; have hnc4 := NB262_261.out; have hz5 := cel3 BK261.out; have hz6 := cel7 BK262.out))
 refine bodyPost_ret (results_cell_row rfl _ _ gb262 52 #[.int .i64 32, .int .i64 0, .int .i64 0, .int .u8 1, .int .u8 a0_0, .int .u8 a0_1, .int .u8 a0_2] (0, 0) _ rfl (kp BK262) Tryz.underlying52 rfl (by kernel_rfl)) rfl ?_
 exact ⟨by first | rfl | (simp <;> rfl) | (simp [*] <;> rfl), bS⟩
def prolepsisref06_New.l0 : Nat → Int → List (S52) → Int → Option ((List (S52)))
 | 0, _, _, _ => none
 | k + 1, x0, x3, x4 => (prolepsisref06_length.f x0).bind fun t263 => (if x4 < t263 then ((prolepsisref05_Blank.f 0 0 0).bind fun bt264 => (if x3.length < 4398046511104 then (prolepsisref06_New.l0 k x0 (x3 ++ [(⟨bt264.1, (⟨bt264.2.1, bt264.2.2.1⟩ : S49), bt264.2.2.2.1, (⟨bt264.2.2.2.2.1, bt264.2.2.2.2.2.1, bt264.2.2.2.2.2.2⟩ : S50)⟩ : S52)]) (wrap64 (x4 + 1))) else (none))) else (some x3))
def prolepsisref06_New.f (k : Nat) (a0 : Int) : Option ((List (S52))) := prolepsisref06_New.l0 k a0 ([] : List (S52)) 0
set_option maxHeartbeats 8000000 in
set_option maxRecDepth 100000 in
theorem prolepsisref06_New.calls (k : Nat) (a0 : Int) (r : List (S52)) (w : World) (h : prolepsisref06_New.f k a0 = some r) :
 Calls Tryz.prog 29 #[.int .i64 a0] w fun e w' => ∃ v0_ : Value, e = .returned (v0_) ∧ Kd.R k52 52 w' w.heap.size (fun _ => True) v0_ r ∧ Below w.heap.size w w' := by
 have hu50 := Tryz.underlying50
 have HB := aS (Below.refl w.heap.size w)
 have H : (prolepsisref06_New.l0 k a0 ([] : List (S52)) 0) = some r := h
 clear h
 have H' := aS H
 clear H
 go_enter Tryz.func29, Tryz.ntmps29
 go_wp2
 go_loopg [3, 4] k (fun kq v3 v4 w' => ∃ (x3_1 : List (S52)) (x4_1 : Int), v4 = .int .i64 x4_1 ∧ Aside0 (prolepsisref06_New.l0 kq a0 x3_1 x4_1 = some r) ∧ Aside0 (kq ≤ k) ∧ Aside0 (Kd.R k52 52 w' w.heap.size (fun _ => True) v3 x3_1) ∧ Aside0 (Below w.heap.size w w'))
 case atStart => exact ⟨(([] : List (S52))), (0), fS, H', ⟨Nat.le_refl _⟩, ⟨by first | exact Kd.R_nil _ _ _ _ _ | exact Kd.N_nil _ _ _ _ _ | exact Kd.V_nil _ _ _ _ _ | exact Kd.Q_nil _ _ _ _ _ | exact Kd.S_nil _ _ _ _ _⟩, ⟨bB⟩⟩
 case round =>
  clear H'
  obtain ⟨x3_1, x4_1, rfl, HA, HK1, HO_3, HB⟩ := hrel
  cases gk with
  | zero => exact absurd HA.out (by simp [prolepsisref06_New.l0])
  | succ k1 =>
   have H := HA.out
   clear HA
   simp only [prolepsisref06_New.l0] at H
   replace H := Option.bind_eq_some_iff.mp H
   obtain ⟨t263, A20, H⟩ := H
   try dsimp only at H
   have A2 := aS A20
   clear A20
   by_cases c3 : x4_1 < t263
   ·rw [if_pos c3] at H
    have c3b0 : decide (x4_1 < t263) = true := decide_eq_true c3
    clear c3
    replace H := Option.bind_eq_some_iff.mp H
    obtain ⟨⟨t264, t265, t266, t267, t268, t269, t270⟩, A40, H⟩ := H
    try dsimp only at H
    have A4 := aS A40
    clear A40
    obtain ⟨c5, H⟩ := ifS H
    have LMc5 := aS c5
    clear c5
    obtain ⟨y271, hy271⟩ : ∃ y_ : List (S52), y_ = (x3_1 ++ [(⟨t264, (⟨t265, t266⟩ : S49), t267, (⟨t268, t269, t270⟩ : S50)⟩ : S52)]) := ⟨_, rfl⟩
    replace H : (prolepsisref06_New.l0 k1 a0 y271 (wrap64 (x4_1 + 1))) = some r := rq hy271 H
    have Ny271 := aS hy271
    clear hy271
    have H' := aS H
    clear H
    go_wp2_with (first | (refine gL 63 7 Tryz.func63 #[.int .i64 a0] ?_; (with_reducible refine (prolepsisref06_length.calls a0 t263 _ A2.out).mono ?_); rintro e w' ⟨rfl, ⟨nd, rfl⟩⟩; refine ⟨_, rfl, ?_⟩) | (refine gL 64 13 Tryz.func64 #[.agg #[.int .u8 0, .int .u8 0, .int .u8 0]] ?_; (with_reducible refine (prolepsisref05_Blank.calls 0 0 0 t264 t265 t266 t267 t268 t269 t270 _ A4.out).mono ?_); rintro e w6 ⟨rfl, hb⟩; refine ⟨_, rfl, ?_⟩; replace HO_3 := aS (Kd.R_below (rr HO_3) hb); replace HB := aS (below_step bB hb); (try clear hb); (try clear hb2); (try clear hk); (try clear hi)) | ((with_reducible refine gate_builtin (b := .append) (xs := #[.tmp 11, .tmp 14]) rfl ?_); at_builtin; refine Kd.R_append k52 (w0 := w) w.heap.size rfl (.tmp 11) (.tmp 14) 72 52 (.agg #[(.int .i64 0), (.int .i64 0), (.int .i64 0), (.int .u8 0), (.int .u8 0), (.int .u8 0), (.int .u8 0)]) 32 rfl Tryz.underlying72 info52 rfl (by decide) (by omega) u3 x3_1 (⟨t264, (⟨t265, t266⟩ : S49), t267, (⟨t268, t269, t270⟩ : S50)⟩ : S52) [.int .i64 t264, .int .i64 t265, .int .i64 t266, .int .u8 t267, .int .u8 t268, .int .u8 t269, .int .u8 t270] (fun _ => True) (fun _ => False) rfl rfl ?aP (fun _ hk => hk.elim) ?aF ?aO ?aB ?aS ?aL ?_; (case aP => exact k52_mkM _ _ _ (⟨t264, (⟨t265, t266⟩ : S49), t267, (⟨t268, t269, t270⟩ : S50)⟩ : S52)); (case aB => exact bB); (case aF => exact (fun _ _ => trivial)); (case aO => exact (rr HO_3)); (case aS => exact (below_size bB)); (case aL => have := LMc5.out; omega); intro v272 w7 ho hb hg hat; rw [← Ny271.out] at ho; replace HB := aS (hb); have HO273 := aS (ho); clear HO_3; clear ho hb hg hat))
    go_roundg k1
    case measure => have := HK1.out; omega
    case rel => exact ⟨(y271), (wrap64 (x4_1 + 1)), fS, H', ⟨by have := HK1.out; omega⟩, ⟨rr HO273⟩, ⟨bB⟩⟩
   ·rw [if_neg c3] at H
    have c3b0 : decide (x4_1 < t263) = false := decide_eq_false c3
    clear c3
    obtain rfl := Option.some.inj H
    go_wp2_with (first | (refine gL 63 7 Tryz.func63 #[.int .i64 a0] ?_; (with_reducible refine (prolepsisref06_length.calls a0 t263 _ A2.out).mono ?_); rintro e w' ⟨rfl, ⟨nd, rfl⟩⟩; refine ⟨_, rfl, ?_⟩))
    go_ret
    exact ⟨_, by first | rfl | (simp <;> rfl) | (simp [*] <;> rfl), rr HO_3, bB⟩
end Go.Proofs.YtblcmcdifgclcaaGreat.PGridPlays
