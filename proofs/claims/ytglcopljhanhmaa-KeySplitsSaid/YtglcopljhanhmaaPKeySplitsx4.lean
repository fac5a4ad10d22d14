/- What the law KeySplits reaches: each function with its contract. -/
import Derived.Test.YtglcopljhanhmaaPKeySplitsx0
import Derived.Test.YtglcopljhanhmaaPKeySplitsx1
namespace Go.Proofs.Ytglcopljhanhmaa.PKeySplits
open Go.RowKit Go.Proofs.YtglcopljhanhmaaW.PrintWords Go.Proofs.YtglcopljhanhmaaW.PrintLast Go.Proofs.YtglcopljhanhmaaW.PrintMore
attribute [local go_sem] isSome_setCell max2_int min2_int max_two min_two max_three min_three max_four min_four   -- for this text's walks alone
set_option linter.unusedVariables false
set_option linter.unusedSimpArgs false

/-! ### utf_Valid: function 20 -/
def utf_Valid.l0 : Nat → List Int → Option (Bool)
  | 0, _ => none
  | k + 1, x0 => if (x0.length : Int) > 0 then ((utf_parse.f k x0).bind fun bt318 => (if bt318.2.2 = true then (some false) else (if bt318.1 = 65533 then (if bt318.2.1 = 3 then (if 0 < (x0.length : Int) then (if (rd x0 0) = 239 then (if 1 < (x0.length : Int) then (if (rd x0 1) = 191 then (if 2 < (x0.length : Int) then (if (rd x0 2) = 189 then (if 0 ≤ bt318.2.1 then (if bt318.2.1 ≤ (x0.length : Int) then (utf_Valid.l0 k (x0.drop (bt318.2.1 : Int).toNat)) else (none)) else (none)) else (some false)) else (none)) else (some false)) else (none)) else (some false)) else (none)) else (some false)) else (if 0 ≤ bt318.2.1 then (if bt318.2.1 ≤ (x0.length : Int) then (utf_Valid.l0 k (x0.drop (bt318.2.1 : Int).toNat)) else (none)) else (none))))) else (some true)
def utf_Valid.f (k : Nat) (l0 : List Int) : Option (Bool) := utf_Valid.l0 k l0
theorem utf_Valid.mono_l : ∀ k, (∀ y0, LeO (utf_Valid.l0 k y0) (utf_Valid.l0 (k + 1) y0))
  | 0 => fun _ r h => by simp [utf_Valid.l0] at h
  | k + 1 => by
    have ih0 := utf_Valid.mono_l k
    · intro y0
      unfold utf_Valid.l0
      repeat' first
      | (with_reducible exact ih0 _)
      | (with_reducible exact utf_parse.mono _ _)
      | (with_reducible exact LeO.refl _)
      | (with_reducible exact LeO.none _)
      | (with_reducible refine LeO.ite ?_ ?_)
      | (with_reducible refine LeO.bind ?_ (fun _ => ?_))
      | exact ih0 _
      | exact utf_parse.mono _ _
      | exact LeO.none _
      | refine LeO.ite ?_ ?_
      | refine LeO.bind ?_ (fun _ => ?_)
theorem utf_Valid.mono : ∀ a0 k, LeO (utf_Valid.f k a0) (utf_Valid.f (k + 1) a0) := by
  intro a0 k
  have ih0 := utf_Valid.mono_l k
  unfold utf_Valid.f
  repeat' first
      | (with_reducible exact ih0 _)
      | (with_reducible exact utf_parse.mono _ _)
      | (with_reducible exact LeO.refl _)
      | (with_reducible exact LeO.none _)
      | (with_reducible refine LeO.ite ?_ ?_)
      | (with_reducible refine LeO.bind ?_ (fun _ => ?_))
      | exact ih0 _
      | exact utf_parse.mono _ _
      | exact LeO.none _
      | refine LeO.ite ?_ ?_
      | refine LeO.bind ?_ (fun _ => ?_)
set_option maxHeartbeats 8000000 in
set_option maxRecDepth 100000 in
theorem utf_Valid.calls (k : Nat) (P0_ : Nat → Prop) (A0 : Option Addr) (c0 : Nat) (l0 : List Int) (r : Bool) (w : World) (hs0 : Kd.V (Kd.int .u8) 5 w w.heap.size (fun k_ => P0_ k_) (.slice A0 l0.length c0) l0) (h : utf_Valid.f k l0 = some r) :
    Calls Try.prog 20 #[.slice A0 l0.length c0] w fun e w' => e = .returned (.bool r) ∧ Below w.heap.size w w' := by
  have HO0 := Aside0.mk (show Kd.V (Kd.int .u8) 5 w w.heap.size (fun k_ => (P0_ k_ ∨ w.heap.size ≤ k_)) (.slice A0 l0.length c0) l0 from Kd.V_mono hs0 (fun k_ hk => .inl hk))
  have HB := Aside0.mk (Below.refl w.heap.size w)
  have H : (utf_Valid.l0 k l0) = some r := h
  clear h
  have H' := Aside0.mk H
  clear H
  go_enter Try.func20, Try.ntmps20
  go_wp2
  go_loopg [0] k (fun kq v0 w' => ∃ (x0_1 : List Int), Aside0 (utf_Valid.l0 kq x0_1 = some r) ∧ Aside0 (kq ≤ k) ∧ Aside0 (Kd.V (Kd.int .u8) 5 w' w.heap.size (fun k_ => (P0_ k_ ∨ w.heap.size ≤ k_)) v0 x0_1) ∧ Aside0 (Below w.heap.size w w'))
  case atStart => exact ⟨(l0), H', ⟨Nat.le_refl _⟩, ⟨by (with_reducible repeat (first | apply Kd.V_alloc | apply Kd.V_drewN | apply Kd.V_drew)); exact HO0.out⟩, ⟨by repeat (first | (with_reducible first | exact HB.out | apply below_alloc | apply pw_below_drewN | apply below_drew1) | exact HB.out)⟩⟩
  case round =>
    clear H'
    obtain ⟨x0_1, HA, HK1, HO_0, HB⟩ := hrel
    cases gk with
    | zero => exact absurd HA.out (by simp [utf_Valid.l0])
    | succ k1 =>
      have H := HA.out
      clear HA
      simp only [utf_Valid.l0] at H
      by_cases c2 : (x0_1.length : Int) > 0
      · rw [if_pos c2] at H
        have c2b0 : decide (0 < (x0_1.length : Int)) = true := decide_eq_true c2
        have c2b1 : decide (0 < x0_1.length) = true := decide_eq_true (by omega)
        clear c2
        replace H := Option.bind_eq_some_iff.mp H
        obtain ⟨⟨t318, t319, t320⟩, A30, H⟩ := H
        replace H : (if t320 = true then (some false) else (if t318 = 65533 then (if t319 = 3 then (if 0 < (x0_1.length : Int) then (if (rd x0_1 0) = 239 then (if 1 < (x0_1.length : Int) then (if (rd x0_1 1) = 191 then (if 2 < (x0_1.length : Int) then (if (rd x0_1 2) = 189 then (if 0 ≤ t319 then (if t319 ≤ (x0_1.length : Int) then (utf_Valid.l0 k1 (x0_1.drop (t319 : Int).toNat)) else (none)) else (none)) else (some false)) else (none)) else (some false)) else (none)) else (some false)) else (none)) else (some false)) else (if 0 ≤ t319 then (if t319 ≤ (x0_1.length : Int) then (utf_Valid.l0 k1 (x0_1.drop (t319 : Int).toNat)) else (none)) else (none)))) = some r := H
        have A3 := Aside0.mk A30
        clear A30
        by_cases c4 : t320 = true
        · subst c4
          have H1 : (some false) = some r := by rw [if_pos rfl] at H; exact H
          clear H
          have H := H1
          clear H1
          obtain rfl := Option.some.inj H
          obtain ⟨Ao5, co5, eo5⟩ := Kd.V_slice HO_0.out
          subst eo5
          go_wp2_with (first | ((with_reducible refine gate_callee (f := 55) rfl ?_); refine goesL_ (some 11) rfl rfl Try.func55 (by kernel_rfl) rfl #[.slice Ao5 x0_1.length co5] rfl (by (try simp only [List.map_toArray, List.map_cons, List.map_nil]); first | done | rfl | (simp only [List.length_drop, List.length_take]; rfl)) ?_; (with_reducible refine (utf_parse.calls k1 _ _ x0_1 t318 t319 true _ ?side1 ?side2 A3.out).mono ?_); (case side1 => repeat (first | exact (Kd.V_reads' HO_0.out).2.2 | (with_reducible refine Kd.C_alloc ?_ _) | (with_reducible refine Kd.C_drewN ?_ _) | (with_reducible refine Kd.C_drew ?_))); (case side2 => exact (Kd.V_reads' HO_0.out).2.1); rintro e w' ⟨rfl, ⟨nd, rfl⟩⟩; refine ⟨_, rfl, ?_⟩))
          go_ret
          exact ⟨by first | rfl | (simp [errW_none, errW_some] <;> rfl) | (simp [*, errW_none, errW_some] <;> rfl), by repeat (first | (with_reducible first | exact HB.out | apply below_alloc | apply pw_below_drewN | apply below_drew1) | exact HB.out)⟩
        · replace c4 := Bool.eq_false_iff.mpr c4
          subst c4
          have H1 : (if t318 = 65533 then (if t319 = 3 then (if 0 < (x0_1.length : Int) then (if (rd x0_1 0) = 239 then (if 1 < (x0_1.length : Int) then (if (rd x0_1 1) = 191 then (if 2 < (x0_1.length : Int) then (if (rd x0_1 2) = 189 then (if 0 ≤ t319 then (if t319 ≤ (x0_1.length : Int) then (utf_Valid.l0 k1 (x0_1.drop (t319 : Int).toNat)) else (none)) else (none)) else (some false)) else (none)) else (some false)) else (none)) else (some false)) else (none)) else (some false)) else (if 0 ≤ t319 then (if t319 ≤ (x0_1.length : Int) then (utf_Valid.l0 k1 (x0_1.drop (t319 : Int).toNat)) else (none)) else (none))) = some r := by rw [if_neg (show ¬ (false = true) by decide)] at H; exact H
          clear H
          have H := H1
          clear H1
          by_cases c6 : t318 = 65533
          · rw [if_pos c6] at H
            have c6b0 : (t318 == 65533) = true := beq_iff_eq.mpr c6
            have c6b1 : (t318 != 65533) = false := bne_eq_false_iff_eq.mpr c6
            clear c6
            by_cases c7 : t319 = 3
            · rw [if_pos c7] at H
              have c7b0 : (t319 == 3) = true := beq_iff_eq.mpr c7
              have c7b1 : (t319 != 3) = false := bne_eq_false_iff_eq.mpr c7
              clear c7
              by_cases c8 : 0 < (x0_1.length : Int)
              · rw [if_pos c8] at H
                have c8b0 : decide (0 < (x0_1.length : Int)) = true := decide_eq_true c8
                have c8b1 : decide (0 < x0_1.length) = true := decide_eq_true (by omega)
                clear c8
                by_cases c9 : (rd x0_1 0) = 239
                · rw [if_pos c9] at H
                  have c9b0 : ((rd x0_1 0) == 239) = true := beq_iff_eq.mpr c9
                  have c9b1 : ((rd x0_1 0) != 239) = false := bne_eq_false_iff_eq.mpr c9
                  clear c9
                  by_cases c10 : 1 < (x0_1.length : Int)
                  · rw [if_pos c10] at H
                    have c10b0 : decide (1 < (x0_1.length : Int)) = true := decide_eq_true c10
                    have c10b1 : decide (1 < x0_1.length) = true := decide_eq_true (by omega)
                    clear c10
                    by_cases c11 : (rd x0_1 1) = 191
                    · rw [if_pos c11] at H
                      have c11b0 : ((rd x0_1 1) == 191) = true := beq_iff_eq.mpr c11
                      have c11b1 : ((rd x0_1 1) != 191) = false := bne_eq_false_iff_eq.mpr c11
                      clear c11
                      by_cases c12 : 2 < (x0_1.length : Int)
                      · rw [if_pos c12] at H
                        have c12b0 : decide (2 < (x0_1.length : Int)) = true := decide_eq_true c12
                        have c12b1 : decide (2 < x0_1.length) = true := decide_eq_true (by omega)
                        clear c12
                        by_cases c13 : (rd x0_1 2) = 189
                        · rw [if_pos c13] at H
                          have c13b0 : ((rd x0_1 2) == 189) = true := beq_iff_eq.mpr c13
                          have c13b1 : ((rd x0_1 2) != 189) = false := bne_eq_false_iff_eq.mpr c13
                          clear c13
                          by_cases c14 : 0 ≤ t319
                          · rw [if_pos c14] at H
                            have c14b0 := eq_true c14
                            have c14b1 : decide (0 ≤ t319) = true := decide_eq_true c14
                            clear c14
                            by_cases c15 : t319 ≤ (x0_1.length : Int)
                            · rw [if_pos c15] at H
                              have c15b0 := eq_true c15
                              have c15b1 : decide (t319 ≤ (x0_1.length : Int)) = true := decide_eq_true c15
                              clear c15
                              obtain ⟨y324, hy324⟩ : ∃ y_ : List Int, y_ = (x0_1.drop (t319 : Int).toNat) := ⟨_, rfl⟩
                              replace H : (utf_Valid.l0 k1 y324) = some r := by first | (rw [hy324]; with_reducible exact H) | (have H2_ := (Option.bind_some _ _).symm.trans H; rw [hy324]; with_reducible exact H2_) | (have H2_ := (Option.bind_some _ _).symm.trans H; with_reducible exact H2_) | with_reducible exact H | (rw [hy324]; exact H) | exact H
                              have Ny324 := Aside0.mk hy324
                              clear hy324
                              have H' := Aside0.mk H
                              clear H
                              obtain ⟨Ao16, co16, eo16⟩ := Kd.V_slice HO_0.out
                              subst eo16
                              go_wp2_with (first | ((with_reducible refine gate_callee (f := 55) rfl ?_); refine goesL_ (some 11) rfl rfl Try.func55 (by kernel_rfl) rfl #[.slice Ao16 x0_1.length co16] rfl (by (try simp only [List.map_toArray, List.map_cons, List.map_nil]); first | done | rfl | (simp only [List.length_drop, List.length_take]; rfl)) ?_; (with_reducible refine (utf_parse.calls k1 _ _ x0_1 t318 t319 false _ ?side1 ?side2 A3.out).mono ?_); (case side1 => repeat (first | exact (Kd.V_reads' HO_0.out).2.2 | (with_reducible refine Kd.C_alloc ?_ _) | (with_reducible refine Kd.C_drewN ?_ _) | (with_reducible refine Kd.C_drew ?_))); (case side2 => exact (Kd.V_reads' HO_0.out).2.1); rintro e w' ⟨rfl, ⟨nd, rfl⟩⟩; refine ⟨_, rfl, ?_⟩; have p321 : 0 ≤ (0 : Int) := (by omega); have q321 : 0 < (x0_1.length : Int) := of_decide_eq_true (by first | (with_reducible assumption) | assumption); obtain ⟨ad321, e321, hx321_0⟩ := Kd.at_int (Kd.V_reads' HO_0.out).2.2 0 p321 q321; cases e321; have qi321 : (0 < x0_1.length) = True := eq_true (by omega); (try rw [show ((0 : Int)).toNat = 0 from rfl] at hx321_0); (try rw [Addr.add_zero'] at hx321_0); replace p321 := eq_true p321; replace q321 := eq_true q321; have p322 : 0 ≤ (1 : Int) := (by omega); have q322 : 1 < (x0_1.length : Int) := of_decide_eq_true (by first | (with_reducible assumption) | assumption); obtain ⟨ad322, e322, hx322_0⟩ := Kd.at_int (Kd.V_reads' HO_0.out).2.2 1 p322 q322; obtain rfl : ad321 = ad322 := (by injection e322); (try simp only [show (1 : Int).toNat = 1 from rfl, Nat.reduceMul, Nat.reduceEqDiff, Go.Addr.add, ↓reduceIte] at hx322_0); have qi322 : (1 < x0_1.length) = True := eq_true (by omega); (try rw [show ((1 : Int)).toNat = 1 from rfl] at hx322_0); replace p322 := eq_true p322; replace q322 := eq_true q322; have p323 : 0 ≤ (2 : Int) := (by omega); have q323 : 2 < (x0_1.length : Int) := of_decide_eq_true (by first | (with_reducible assumption) | assumption); obtain ⟨ad323, e323, hx323_0⟩ := Kd.at_int (Kd.V_reads' HO_0.out).2.2 2 p323 q323; obtain rfl : ad321 = ad323 := (by injection e323); (try simp only [show (2 : Int).toNat = 2 from rfl, Nat.reduceMul, Nat.reduceEqDiff, Go.Addr.add, ↓reduceIte] at hx323_0); have qi323 : (2 < x0_1.length) = True := eq_true (by omega); (try rw [show ((2 : Int)).toNat = 2 from rfl] at hx323_0); replace p323 := eq_true p323; replace q323 := eq_true q323; have q17 : (t319 : Int) ≤ ((x0_1.length : Int) : Int) := of_decide_eq_true (by first | (with_reducible assumption) | assumption); obtain ⟨i017, hi017, _, hsz17, _⟩ := info_parts info5; have hroom17 : x0_1.length ≤ co16 := (Kd.V_reads' HO_0.out).2.1; have hC17 : Kd.F (Kd.int .u8) _ _ (some ad321) x0_1.length x0_1 := (Kd.V_at (base := w.heap.size) HO_0.out).2.2; have q017 : (0 : Int) ≤ (t319 : Int) := of_decide_eq_true (by first | (with_reducible assumption) | assumption); have hcut17 := cut_from (P := Try.prog) 22 5 .i64 Try.underlying22 hi017 1 hsz17 (some ad321) x0_1.length co16 t319 q017 q17; have hr17 := Kd.F_cut (m := (t319 : Int).toNat) (c := co16) hC17 (by omega) hroom17; obtain ⟨A17, hA17⟩ : ∃ A1, A1 = (if co16 = (t319 : Int).toNat then (some ad321) else ((some ad321) : Option Addr).map (·.add ((t319 : Int).toNat * 1))) := ⟨_, rfl⟩; obtain ⟨c17, hc17⟩ : ∃ c1, c1 = co16 - (t319 : Int).toNat := ⟨_, rfl⟩; have hy17 : y324.length = x0_1.length - (t319 : Int).toNat := (by rw [Ny324.out, List.length_drop] <;> omega); rw [show (x0_1).drop (t319 : Int).toNat = y324 from Ny324.out.symm] at hr17; replace hr17 : Kd.F (Kd.int .u8) _ _ A17 y324.length y324 := (by rw [hA17]; exact hr17); rw [← hy17, ← hA17, ← hc17] at hcut17; have HO328 := Aside0.mk (show Kd.V (Kd.int .u8) 5 _ w.heap.size _ (.slice A17 y324.length c17) y324 from Kd.V_mk (by rw [hy17, hc17]; exact Nat.sub_le_sub_right hroom17 _) hr17); have HC328 := Aside0.mk (show y324.length ≤ c17 from by rw [hy17, hc17]; exact Nat.sub_le_sub_right hroom17 _); clear hr17 hC17 hroom17 hi017 hsz17 hc17; have KY17 := Aside0.mk hy17; have KA17 := Aside0.mk hA17; clear hy17 hA17; replace q17 := eq_true q17))
                              go_roundg k1
                              case measure => have := HK1.out; omega
                              case rel => exact ⟨(y324), H', ⟨by have := HK1.out; omega⟩, ⟨by (with_reducible repeat (first | apply Kd.V_alloc | apply Kd.V_drewN | apply Kd.V_drew)); exact HO328.out⟩, ⟨by repeat (first | (with_reducible first | exact HB.out | apply below_alloc | apply pw_below_drewN | apply below_drew1) | exact HB.out)⟩⟩
                            · rw [if_neg c15] at H
                              exact absurd H (by simp)
                          · rw [if_neg c14] at H
                            exact absurd H (by simp)
                        · rw [if_neg c13] at H
                          have c13b0 : ((rd x0_1 2) == 189) = false := beq_eq_false_iff_ne.mpr c13
                          have c13b1 : ((rd x0_1 2) != 189) = true := bne_iff_ne.mpr c13
                          obtain rfl := Option.some.inj H
                          obtain ⟨Ao18, co18, eo18⟩ := Kd.V_slice HO_0.out
                          subst eo18
                          go_wp2_with (first | ((with_reducible refine gate_callee (f := 55) rfl ?_); refine goesL_ (some 11) rfl rfl Try.func55 (by kernel_rfl) rfl #[.slice Ao18 x0_1.length co18] rfl (by (try simp only [List.map_toArray, List.map_cons, List.map_nil]); first | done | rfl | (simp only [List.length_drop, List.length_take]; rfl)) ?_; (with_reducible refine (utf_parse.calls k1 _ _ x0_1 t318 t319 false _ ?side1 ?side2 A3.out).mono ?_); (case side1 => repeat (first | exact (Kd.V_reads' HO_0.out).2.2 | (with_reducible refine Kd.C_alloc ?_ _) | (with_reducible refine Kd.C_drewN ?_ _) | (with_reducible refine Kd.C_drew ?_))); (case side2 => exact (Kd.V_reads' HO_0.out).2.1); rintro e w' ⟨rfl, ⟨nd, rfl⟩⟩; refine ⟨_, rfl, ?_⟩; have p321 : 0 ≤ (0 : Int) := (by omega); have q321 : 0 < (x0_1.length : Int) := of_decide_eq_true (by first | (with_reducible assumption) | assumption); obtain ⟨ad321, e321, hx321_0⟩ := Kd.at_int (Kd.V_reads' HO_0.out).2.2 0 p321 q321; cases e321; have qi321 : (0 < x0_1.length) = True := eq_true (by omega); (try rw [show ((0 : Int)).toNat = 0 from rfl] at hx321_0); (try rw [Addr.add_zero'] at hx321_0); replace p321 := eq_true p321; replace q321 := eq_true q321; have p322 : 0 ≤ (1 : Int) := (by omega); have q322 : 1 < (x0_1.length : Int) := of_decide_eq_true (by first | (with_reducible assumption) | assumption); obtain ⟨ad322, e322, hx322_0⟩ := Kd.at_int (Kd.V_reads' HO_0.out).2.2 1 p322 q322; obtain rfl : ad321 = ad322 := (by injection e322); (try simp only [show (1 : Int).toNat = 1 from rfl, Nat.reduceMul, Nat.reduceEqDiff, Go.Addr.add, ↓reduceIte] at hx322_0); have qi322 : (1 < x0_1.length) = True := eq_true (by omega); (try rw [show ((1 : Int)).toNat = 1 from rfl] at hx322_0); replace p322 := eq_true p322; replace q322 := eq_true q322; have p323 : 0 ≤ (2 : Int) := (by omega); have q323 : 2 < (x0_1.length : Int) := of_decide_eq_true (by first | (with_reducible assumption) | assumption); obtain ⟨ad323, e323, hx323_0⟩ := Kd.at_int (Kd.V_reads' HO_0.out).2.2 2 p323 q323; obtain rfl : ad321 = ad323 := (by injection e323); (try simp only [show (2 : Int).toNat = 2 from rfl, Nat.reduceMul, Nat.reduceEqDiff, Go.Addr.add, ↓reduceIte] at hx323_0); have qi323 : (2 < x0_1.length) = True := eq_true (by omega); (try rw [show ((2 : Int)).toNat = 2 from rfl] at hx323_0); replace p323 := eq_true p323; replace q323 := eq_true q323))
                          go_ret
                          exact ⟨by first | rfl | (simp [errW_none, errW_some] <;> rfl) | (simp [*, errW_none, errW_some] <;> rfl), by repeat (first | (with_reducible first | exact HB.out | apply below_alloc | apply pw_below_drewN | apply below_drew1) | exact HB.out)⟩
                      · rw [if_neg c12] at H
                        exact absurd H (by simp)
                    · rw [if_neg c11] at H
                      have c11b0 : ((rd x0_1 1) == 191) = false := beq_eq_false_iff_ne.mpr c11
                      have c11b1 : ((rd x0_1 1) != 191) = true := bne_iff_ne.mpr c11
                      obtain rfl := Option.some.inj H
                      obtain ⟨Ao19, co19, eo19⟩ := Kd.V_slice HO_0.out
                      subst eo19
                      go_wp2_with (first | ((with_reducible refine gate_callee (f := 55) rfl ?_); refine goesL_ (some 11) rfl rfl Try.func55 (by kernel_rfl) rfl #[.slice Ao19 x0_1.length co19] rfl (by (try simp only [List.map_toArray, List.map_cons, List.map_nil]); first | done | rfl | (simp only [List.length_drop, List.length_take]; rfl)) ?_; (with_reducible refine (utf_parse.calls k1 _ _ x0_1 t318 t319 false _ ?side1 ?side2 A3.out).mono ?_); (case side1 => repeat (first | exact (Kd.V_reads' HO_0.out).2.2 | (with_reducible refine Kd.C_alloc ?_ _) | (with_reducible refine Kd.C_drewN ?_ _) | (with_reducible refine Kd.C_drew ?_))); (case side2 => exact (Kd.V_reads' HO_0.out).2.1); rintro e w' ⟨rfl, ⟨nd, rfl⟩⟩; refine ⟨_, rfl, ?_⟩; have p321 : 0 ≤ (0 : Int) := (by omega); have q321 : 0 < (x0_1.length : Int) := of_decide_eq_true (by first | (with_reducible assumption) | assumption); obtain ⟨ad321, e321, hx321_0⟩ := Kd.at_int (Kd.V_reads' HO_0.out).2.2 0 p321 q321; cases e321; have qi321 : (0 < x0_1.length) = True := eq_true (by omega); (try rw [show ((0 : Int)).toNat = 0 from rfl] at hx321_0); (try rw [Addr.add_zero'] at hx321_0); replace p321 := eq_true p321; replace q321 := eq_true q321; have p322 : 0 ≤ (1 : Int) := (by omega); have q322 : 1 < (x0_1.length : Int) := of_decide_eq_true (by first | (with_reducible assumption) | assumption); obtain ⟨ad322, e322, hx322_0⟩ := Kd.at_int (Kd.V_reads' HO_0.out).2.2 1 p322 q322; obtain rfl : ad321 = ad322 := (by injection e322); (try simp only [show (1 : Int).toNat = 1 from rfl, Nat.reduceMul, Nat.reduceEqDiff, Go.Addr.add, ↓reduceIte] at hx322_0); have qi322 : (1 < x0_1.length) = True := eq_true (by omega); (try rw [show ((1 : Int)).toNat = 1 from rfl] at hx322_0); replace p322 := eq_true p322; replace q322 := eq_true q322))
                      go_ret
                      exact ⟨by first | rfl | (simp [errW_none, errW_some] <;> rfl) | (simp [*, errW_none, errW_some] <;> rfl), by repeat (first | (with_reducible first | exact HB.out | apply below_alloc | apply pw_below_drewN | apply below_drew1) | exact HB.out)⟩
                  · rw [if_neg c10] at H
                    exact absurd H (by simp)
                · rw [if_neg c9] at H
                  have c9b0 : ((rd x0_1 0) == 239) = false := beq_eq_false_iff_ne.mpr c9
                  have c9b1 : ((rd x0_1 0) != 239) = true := bne_iff_ne.mpr c9
                  obtain rfl := Option.some.inj H
                  obtain ⟨Ao20, co20, eo20⟩ := Kd.V_slice HO_0.out
                  subst eo20
                  go_wp2_with (first | ((with_reducible refine gate_callee (f := 55) rfl ?_); refine goesL_ (some 11) rfl rfl Try.func55 (by kernel_rfl) rfl #[.slice Ao20 x0_1.length co20] rfl (by (try simp only [List.map_toArray, List.map_cons, List.map_nil]); first | done | rfl | (simp only [List.length_drop, List.length_take]; rfl)) ?_; (with_reducible refine (utf_parse.calls k1 _ _ x0_1 t318 t319 false _ ?side1 ?side2 A3.out).mono ?_); (case side1 => repeat (first | exact (Kd.V_reads' HO_0.out).2.2 | (with_reducible refine Kd.C_alloc ?_ _) | (with_reducible refine Kd.C_drewN ?_ _) | (with_reducible refine Kd.C_drew ?_))); (case side2 => exact (Kd.V_reads' HO_0.out).2.1); rintro e w' ⟨rfl, ⟨nd, rfl⟩⟩; refine ⟨_, rfl, ?_⟩; have p321 : 0 ≤ (0 : Int) := (by omega); have q321 : 0 < (x0_1.length : Int) := of_decide_eq_true (by first | (with_reducible assumption) | assumption); obtain ⟨ad321, e321, hx321_0⟩ := Kd.at_int (Kd.V_reads' HO_0.out).2.2 0 p321 q321; cases e321; have qi321 : (0 < x0_1.length) = True := eq_true (by omega); (try rw [show ((0 : Int)).toNat = 0 from rfl] at hx321_0); (try rw [Addr.add_zero'] at hx321_0); replace p321 := eq_true p321; replace q321 := eq_true q321))
                  go_ret
                  exact ⟨by first | rfl | (simp [errW_none, errW_some] <;> rfl) | (simp [*, errW_none, errW_some] <;> rfl), by repeat (first | (with_reducible first | exact HB.out | apply below_alloc | apply pw_below_drewN | apply below_drew1) | exact HB.out)⟩
              · rw [if_neg c8] at H
                exact absurd H (by simp)
            · rw [if_neg c7] at H
              have c7b0 : (t319 == 3) = false := beq_eq_false_iff_ne.mpr c7
              have c7b1 : (t319 != 3) = true := bne_iff_ne.mpr c7
              obtain rfl := Option.some.inj H
              obtain ⟨Ao21, co21, eo21⟩ := Kd.V_slice HO_0.out
              subst eo21
              go_wp2_with (first | ((with_reducible refine gate_callee (f := 55) rfl ?_); refine goesL_ (some 11) rfl rfl Try.func55 (by kernel_rfl) rfl #[.slice Ao21 x0_1.length co21] rfl (by (try simp only [List.map_toArray, List.map_cons, List.map_nil]); first | done | rfl | (simp only [List.length_drop, List.length_take]; rfl)) ?_; (with_reducible refine (utf_parse.calls k1 _ _ x0_1 t318 t319 false _ ?side1 ?side2 A3.out).mono ?_); (case side1 => repeat (first | exact (Kd.V_reads' HO_0.out).2.2 | (with_reducible refine Kd.C_alloc ?_ _) | (with_reducible refine Kd.C_drewN ?_ _) | (with_reducible refine Kd.C_drew ?_))); (case side2 => exact (Kd.V_reads' HO_0.out).2.1); rintro e w' ⟨rfl, ⟨nd, rfl⟩⟩; refine ⟨_, rfl, ?_⟩))
              go_ret
              exact ⟨by first | rfl | (simp [errW_none, errW_some] <;> rfl) | (simp [*, errW_none, errW_some] <;> rfl), by repeat (first | (with_reducible first | exact HB.out | apply below_alloc | apply pw_below_drewN | apply below_drew1) | exact HB.out)⟩
          · rw [if_neg c6] at H
            have c6b0 : (t318 == 65533) = false := beq_eq_false_iff_ne.mpr c6
            have c6b1 : (t318 != 65533) = true := bne_iff_ne.mpr c6
            by_cases c22 : 0 ≤ t319
            · rw [if_pos c22] at H
              have c22b0 := eq_true c22
              have c22b1 : decide (0 ≤ t319) = true := decide_eq_true c22
              clear c22
              by_cases c23 : t319 ≤ (x0_1.length : Int)
              · rw [if_pos c23] at H
                have c23b0 := eq_true c23
                have c23b1 : decide (t319 ≤ (x0_1.length : Int)) = true := decide_eq_true c23
                clear c23
                obtain ⟨y329, hy329⟩ : ∃ y_ : List Int, y_ = (x0_1.drop (t319 : Int).toNat) := ⟨_, rfl⟩
                replace H : (utf_Valid.l0 k1 y329) = some r := by first | (rw [hy329]; with_reducible exact H) | (have H2_ := (Option.bind_some _ _).symm.trans H; rw [hy329]; with_reducible exact H2_) | (have H2_ := (Option.bind_some _ _).symm.trans H; with_reducible exact H2_) | with_reducible exact H | (rw [hy329]; exact H) | exact H
                have Ny329 := Aside0.mk hy329
                clear hy329
                have H' := Aside0.mk H
                clear H
                obtain ⟨Ao24, co24, eo24⟩ := Kd.V_slice HO_0.out
                subst eo24
                go_wp2_with (first | ((with_reducible refine gate_callee (f := 55) rfl ?_); refine goesL_ (some 11) rfl rfl Try.func55 (by kernel_rfl) rfl #[.slice Ao24 x0_1.length co24] rfl (by (try simp only [List.map_toArray, List.map_cons, List.map_nil]); first | done | rfl | (simp only [List.length_drop, List.length_take]; rfl)) ?_; (with_reducible refine (utf_parse.calls k1 _ _ x0_1 t318 t319 false _ ?side1 ?side2 A3.out).mono ?_); (case side1 => repeat (first | exact (Kd.V_reads' HO_0.out).2.2 | (with_reducible refine Kd.C_alloc ?_ _) | (with_reducible refine Kd.C_drewN ?_ _) | (with_reducible refine Kd.C_drew ?_))); (case side2 => exact (Kd.V_reads' HO_0.out).2.1); rintro e w' ⟨rfl, ⟨nd, rfl⟩⟩; refine ⟨_, rfl, ?_⟩; have q25 : (t319 : Int) ≤ ((x0_1.length : Int) : Int) := of_decide_eq_true (by first | (with_reducible assumption) | assumption); obtain ⟨i025, hi025, _, hsz25, _⟩ := info_parts info5; have hroom25 : x0_1.length ≤ co24 := (Kd.V_reads' HO_0.out).2.1; have hC25 : Kd.F (Kd.int .u8) _ _ Ao24 x0_1.length x0_1 := (Kd.V_at (base := w.heap.size) HO_0.out).2.2; have q025 : (0 : Int) ≤ (t319 : Int) := of_decide_eq_true (by first | (with_reducible assumption) | assumption); have hcut25 := cut_from (P := Try.prog) 22 5 .i64 Try.underlying22 hi025 1 hsz25 Ao24 x0_1.length co24 t319 q025 q25; have hr25 := Kd.F_cut (m := (t319 : Int).toNat) (c := co24) hC25 (by omega) hroom25; obtain ⟨A25, hA25⟩ : ∃ A1, A1 = (if co24 = (t319 : Int).toNat then Ao24 else (Ao24 : Option Addr).map (·.add ((t319 : Int).toNat * 1))) := ⟨_, rfl⟩; obtain ⟨c25, hc25⟩ : ∃ c1, c1 = co24 - (t319 : Int).toNat := ⟨_, rfl⟩; have hy25 : y329.length = x0_1.length - (t319 : Int).toNat := (by rw [Ny329.out, List.length_drop] <;> omega); rw [show (x0_1).drop (t319 : Int).toNat = y329 from Ny329.out.symm] at hr25; replace hr25 : Kd.F (Kd.int .u8) _ _ A25 y329.length y329 := (by rw [hA25]; exact hr25); rw [← hy25, ← hA25, ← hc25] at hcut25; have HO333 := Aside0.mk (show Kd.V (Kd.int .u8) 5 _ w.heap.size _ (.slice A25 y329.length c25) y329 from Kd.V_mk (by rw [hy25, hc25]; exact Nat.sub_le_sub_right hroom25 _) hr25); have HC333 := Aside0.mk (show y329.length ≤ c25 from by rw [hy25, hc25]; exact Nat.sub_le_sub_right hroom25 _); clear hr25 hC25 hroom25 hi025 hsz25 hc25; have KY25 := Aside0.mk hy25; have KA25 := Aside0.mk hA25; clear hy25 hA25; replace q25 := eq_true q25))
                go_roundg k1
                case measure => have := HK1.out; omega
                case rel => exact ⟨(y329), H', ⟨by have := HK1.out; omega⟩, ⟨by (with_reducible repeat (first | apply Kd.V_alloc | apply Kd.V_drewN | apply Kd.V_drew)); exact HO333.out⟩, ⟨by repeat (first | (with_reducible first | exact HB.out | apply below_alloc | apply pw_below_drewN | apply below_drew1) | exact HB.out)⟩⟩
              · rw [if_neg c23] at H
                exact absurd H (by simp)
            · rw [if_neg c22] at H
              exact absurd H (by simp)
      · rw [if_neg c2] at H
        have c2b0 : decide (0 < (x0_1.length : Int)) = false := decide_eq_false c2
        have c2b1 : decide (0 < x0_1.length) = false := decide_eq_false (by omega)
        clear c2
        obtain rfl := Option.some.inj H
        obtain ⟨Ao26, co26, eo26⟩ := Kd.V_slice HO_0.out
        subst eo26
        go_wp2
        go_ret
        exact ⟨by first | rfl | (simp [errW_none, errW_some] <;> rfl) | (simp [*, errW_none, errW_some] <;> rfl), by repeat (first | (with_reducible first | exact HB.out | apply below_alloc | apply pw_below_drewN | apply below_drew1) | exact HB.out)⟩

/-! ### utf_Scalar: function 29 -/
def utf_Scalar.f (a0 : Int) : Option (Bool) := if a0 ≥ 0 then (if a0 < 55296 then (some true) else (if a0 > 57343 then (some (decide (a0 ≤ 1114111))) else (some false))) else (if a0 > 57343 then (some (decide (a0 ≤ 1114111))) else (some false))
set_option maxHeartbeats 8000000 in
set_option maxRecDepth 100000 in
theorem utf_Scalar.calls (a0 : Int) (r : Bool) (w : World) (h : utf_Scalar.f a0 = some r) :
    Calls Try.prog 29 #[.int .i32 a0] w fun e w' => e = .returned (.bool r) ∧ Drawn0 w w' := by
  have H : (if a0 ≥ 0 then (if a0 < 55296 then (some true) else (if a0 > 57343 then (some (decide (a0 ≤ 1114111))) else (some false))) else (if a0 > 57343 then (some (decide (a0 ≤ 1114111))) else (some false))) = some r := h
  clear h
  by_cases c2 : a0 ≥ 0
  · rw [if_pos c2] at H
    have c2b0 : decide (0 ≤ a0) = true := decide_eq_true c2
    clear c2
    by_cases c3 : a0 < 55296
    · rw [if_pos c3] at H
      have c3b0 : decide (a0 < 55296) = true := decide_eq_true c3
      clear c3
      obtain rfl := Option.some.inj H
      go_enter Try.func29, Try.ntmps29
      go_wp2
      go_ret
      exact ⟨by first | rfl | (simp; done) | (simp [*]; done), by repeat (first | exact Drawn0.refl _ | apply Drawn0.step)⟩
    · rw [if_neg c3] at H
      have c3b0 : decide (a0 < 55296) = false := decide_eq_false c3
      clear c3
      by_cases c4 : a0 > 57343
      · rw [if_pos c4] at H
        have c4b0 : decide (57343 < a0) = true := decide_eq_true c4
        clear c4
        obtain rfl := Option.some.inj H
        go_enter Try.func29, Try.ntmps29
        go_wp2
        go_ret
        exact ⟨by first | rfl | (simp; done) | (simp [*]; done), by repeat (first | exact Drawn0.refl _ | apply Drawn0.step)⟩
      · rw [if_neg c4] at H
        have c4b0 : decide (57343 < a0) = false := decide_eq_false c4
        clear c4
        obtain rfl := Option.some.inj H
        go_enter Try.func29, Try.ntmps29
        go_wp2
        go_ret
        exact ⟨by first | rfl | (simp; done) | (simp [*]; done), by repeat (first | exact Drawn0.refl _ | apply Drawn0.step)⟩
  · rw [if_neg c2] at H
    have c2b0 : decide (0 ≤ a0) = false := decide_eq_false c2
    clear c2
    by_cases c5 : a0 > 57343
    · rw [if_pos c5] at H
      have c5b0 : decide (57343 < a0) = true := decide_eq_true c5
      clear c5
      obtain rfl := Option.some.inj H
      go_enter Try.func29, Try.ntmps29
      go_wp2
      go_ret
      exact ⟨by first | rfl | (simp; done) | (simp [*]; done), by repeat (first | exact Drawn0.refl _ | apply Drawn0.step)⟩
    · rw [if_neg c5] at H
      have c5b0 : decide (57343 < a0) = false := decide_eq_false c5
      clear c5
      obtain rfl := Option.some.inj H
      go_enter Try.func29, Try.ntmps29
      go_wp2
      go_ret
      exact ⟨by first | rfl | (simp; done) | (simp [*]; done), by repeat (first | exact Drawn0.refl _ | apply Drawn0.step)⟩

-- NOT PRINTED: function 62 (width_marks)

-- NOT PRINTED: function 63 (width_wides)

/-! ### width_Of: function 36: of own contracts -/
def width_Of.f (a0 : Int) : Option (Int) := some (wOf a0)
theorem width_Of.calls (a0 : Int) (r : Int) (w : World) (h : width_Of.f a0 = some r) :
    Calls Try.prog 36 #[.int .i32 a0] w fun e w' => e = .returned (.int .i64 r) ∧ Below w.heap.size w w' := by
  obtain rfl := Option.some.inj h
  exact Of_any a0 w

/-! ### width_Plain: function 39 -/
def width_Plain.f (a0 : Int) : Option (Bool) := (width_Of.f a0).bind fun t337 => (some (t337 == 1))
set_option maxHeartbeats 8000000 in
set_option maxRecDepth 100000 in
theorem width_Plain.calls (a0 : Int) (r : Bool) (w : World) (h : width_Plain.f a0 = some r) :
    Calls Try.prog 39 #[.int .i32 a0] w fun e w' => e = .returned (.bool r) ∧ Below w.heap.size w w' := by
  have HB := Aside0.mk (Below.refl w.heap.size w)
  have H : ((width_Of.f a0).bind fun t337 => (some (t337 == 1))) = some r := h
  clear h
  replace H := Option.bind_eq_some_iff.mp H
  obtain ⟨t337, A20, H⟩ := H
  replace H : (some (t337 == 1)) = some r := H
  have A2 := Aside0.mk A20
  clear A20
  obtain rfl := Option.some.inj H
  go_enter Try.func39, Try.ntmps39
  go_wp2_with (first | ((with_reducible refine gate_callee (f := 36) rfl ?_); refine goesL_ (some 4) rfl rfl Try.func36 (by kernel_rfl) rfl #[.int .i32 a0] rfl (by (try simp only [List.map_toArray, List.map_cons, List.map_nil]); first | done | rfl | (simp only [List.length_drop, List.length_take]; rfl)) ?_; (with_reducible refine (width_Of.calls a0 t337 _ A2.out).mono ?_); rintro e w3 ⟨rfl, hb⟩; refine ⟨_, rfl, ?_⟩; have n0_ := Aside0.mk (below_step (by repeat (first | (with_reducible first | exact HB.out | apply below_alloc | apply pw_below_drewN | apply below_drew1) | exact HB.out)) hb); clear HB; have HB := n0_; clear n0_; (try clear hb); (try clear hb2); (try clear hk); (try clear hi)))
  go_ret
  exact ⟨by first | rfl | (simp [errW_none, errW_some] <;> rfl) | (simp [*, errW_none, errW_some] <;> rfl), by repeat (first | (with_reducible first | exact HB.out | apply below_alloc | apply pw_below_drewN | apply below_drew1) | exact HB.out)⟩

theorem parse_more (l : List Int) (h : (parseZ l).2.2 = true) : parseZ l = (0, 0, true) := by
  match l with
  | [] => rfl
  | a :: t =>
    simp only [parseZ] at h ⊢
    by_cases h1 : a < 128
    · rw [if_pos h1] at h; simp at h
    rw [if_neg h1] at h ⊢
    by_cases h2 : a < 194 ∨ 244 < a
    · rw [if_pos h2] at h; simp at h
    rw [if_neg h2] at h ⊢
    match t with
    | [] => rfl
    | b :: t =>
      dsimp only at h ⊢
      by_cases h3 : two a b = false
      · rw [if_pos h3] at h; simp at h
      rw [if_neg h3] at h ⊢
      by_cases h4 : a < 224
      · rw [if_pos h4] at h; simp at h
      rw [if_neg h4] at h ⊢
      match t with
      | [] => rfl
      | c :: t =>
        dsimp only at h ⊢
        by_cases h5 : cont c = false
        · rw [if_pos h5] at h; simp at h
        rw [if_neg h5] at h ⊢
        by_cases h6 : a < 240
        · rw [if_pos h6] at h; simp at h
        rw [if_neg h6] at h ⊢
        match t with
        | [] => rfl
        | d :: t =>
          dsimp only at h ⊢
          by_cases h7 : cont d = false
          · rw [if_pos h7] at h; simp at h
          rw [if_neg h7] at h; simp at h
theorem pre3 (l : List Int) : [239, 191, 189] <+: l ↔ 3 ≤ l.length ∧ rd l 0 = 239 ∧ rd l 1 = 191 ∧ rd l 2 = 189 := by
  match l with
  | [] => simp
  | [a] => simp [List.cons_prefix_cons]
  | [a, b] => simp [List.cons_prefix_cons]
  | a :: b :: c :: t =>
    rw [List.cons_prefix_cons, List.cons_prefix_cons, List.cons_prefix_cons]
    simp [rd]
    omega
theorem broken_len (l : List Int) (h : [239, 191, 189] <+: l) : parseZ l = (65533, 3, false) := by
  obtain ⟨t, rfl⟩ := h
  rfl
theorem uValid_l : ∀ (n : Nat) (l : List Int) (k : Nat), l.length ≤ n → In8u l → n ≤ 1000000 → n + 12 < k → utf_Valid.l0 k l = some (validN n l) := by
  intro n
  induction n with
  | zero =>
    intro l k hl h8 ho hk
    obtain ⟨k, rfl⟩ : ∃ m, k = m + 1 := ⟨k - 1, by omega⟩
    rw [List.eq_nil_of_length_eq_zero (Nat.le_zero.1 hl), utf_Valid.l0, if_neg (by simp)]
    rfl
  | succ n ih =>
    intro l k hl h8 ho hk
    obtain ⟨k, rfl⟩ : ∃ m, k = m + 1 := ⟨k - 1, by omega⟩
    match l with
    | [] => rw [utf_Valid.l0, if_neg (by simp)]; rfl
    | a :: t =>
      rw [utf_Valid.l0, if_pos (by simp only [List.length_cons]; omega), p_parse (a :: t) h8 (by simp) k (by omega), validN]
      · simp only [Option.bind_some]
        by_cases hb : (parseZ (a :: t)).2.2 = true
        · rw [if_pos hb, if_pos hb]
        · have hp := parseZ_pos a t (Bool.eq_false_iff.2 hb)
          have hi := ih ((a :: t).drop (parseZ (a :: t)).2.1.toNat) k (by rw [List.length_drop]; omega) (fun x hx => h8 x (List.mem_of_mem_drop hx)) (by omega) (by omega)
          rw [if_neg hb, if_neg hb]
          by_cases hr : (parseZ (a :: t)).1 = 65533
          · rw [if_pos hr]
            by_cases h3 : [239, 191, 189] <+: a :: t
            · have hq := broken_len _ h3
              rw [pre3] at h3
              rw [hq] at hi hp ⊢
              rw [if_pos rfl, if_pos (by omega), if_pos h3.2.1, if_pos (by omega), if_pos h3.2.2.1, if_pos (by omega), if_pos h3.2.2.2, if_pos (by dsimp only; omega), if_pos (by dsimp only; omega), hi, if_neg (fun hh => hh.2 ((pre3 (a :: t)).2 h3))]
            · rw [if_pos (show (parseZ (a :: t)).1 = 65533 ∧ ¬ [239, 191, 189] <+: a :: t from ⟨hr, h3⟩)]
              by_cases c3 : (parseZ (a :: t)).2.1 = 3
              · rw [if_pos c3, if_pos (by omega)]
                by_cases d0 : rd (a :: t) 0 = 239
                · rw [if_pos d0, if_pos (by omega)]
                  by_cases d1 : rd (a :: t) 1 = 191
                  · rw [if_pos d1, if_pos (by omega)]
                    by_cases d2 : rd (a :: t) 2 = 189
                    · exact absurd ((pre3 _).2 ⟨by omega, d0, d1, d2⟩) h3
                    · rw [if_neg d2]
                  · rw [if_neg d1]
                · rw [if_neg d0]
              · rw [if_neg c3]
          · rw [if_neg hr, if_pos (by omega), if_pos (by omega), if_neg (by simp [hr]), hi]
      · simp
theorem uValid_ok (l : List Int) (h8 : In8u l) (hl : l.length ≤ 1000000) (k : Nat) (hk : l.length + 12 < k) : utf_Valid.f k l = some (decide ((runesZ l).flatMap enc = l)) := by
  unfold utf_Valid.f
  rw [uValid_l l.length l k (Nat.le_refl _) h8 hl hk, valid_iff l.length l (Nat.le_refl _) h8]
theorem kValid (A : Option Addr) (c : Nat) (l : List Int) (w : World) (hC : (Kd.int .u8).C w A l.length l) (hc : l.length ≤ c) (h8 : In8u l) (hl : l.length ≤ 1000) :
    Calls Try.prog 20 #[.slice A l.length c] w fun e w' => e = .returned (.bool (validK l)) ∧ Below w.heap.size w w' :=
  utf_Valid.calls (l.length + 13) (fun k_ => k_ < w.heap.size) A c l _ w (Kd.V_mk hc (Kd.F_below (Kd.C_F (Kd.heap_int .u8) hC) (Below.refl _ _))) (uValid_ok l h8 (by omega) _ (by omega))
theorem kPlain (r : Int) (w : World) : Calls Try.prog 39 #[.int .i32 r] w fun e w' => e = .returned (.bool (plainK r)) ∧ Below w.heap.size w w' :=
  width_Plain.calls r (plainK r) w rfl
/-! ### key_Of: function 46: of own contracts -/
def key_Of.f (l0 : List Int) : Option (Int × Int) := if l0.all (fun x => decide (0 ≤ x ∧ x ≤ 255)) = true ∧ l0.length ≤ 1000 then some (ofK l0) else none
theorem key_Of.calls (A0 : Option Addr) (c0 : Nat) (l0 : List Int) (r1 : Int) (r2 : Int) (w : World) (hr0 : Kd.C (Kd.int .u8) w A0 l0.length l0) (hc0 : l0.length ≤ c0) (h : key_Of.f l0 = some (r1, r2)) :
    Calls Try.prog 46 #[.slice A0 l0.length c0] w fun e w' => e = .returned (.agg #[.int .i64 r1, .int .i32 r2]) ∧ Below w.heap.size w w' := by
  unfold key_Of.f at h
  by_cases hb : l0.all (fun x => decide (0 ≤ x ∧ x ≤ 255)) = true ∧ l0.length ≤ 1000
  · rw [if_pos hb] at h
    exact Of_walk kFirst kValid kPlain A0 c0 l0 r1 r2 w hr0 hc0 (all8K.1 hb.1) hb.2 (Option.some.inj h)
  · rw [if_neg hb] at h; cases h

/-! ### prolepsislaw22_known: function 45: of own contracts -/
def prolepsislaw22_known.f  : Option (Bool) := some true
theorem prolepsislaw22_known.calls  (r : Bool) (w : World) (h : prolepsislaw22_known.f  = some r) :
    Calls Try.prog 45 #[] w fun e w' => e = .returned (.bool r) ∧ Below w.heap.size w w' := by
  cases h
  refine known22_walk ?_ ?_ w
  · intro A c l r1 r2 w hC hc h8 hl hq
    exact key_Of.calls A c l r1 r2 w hC hc (by unfold key_Of.f; rw [if_pos ⟨all8K.2 h8, hl⟩, hq])
  · intro A c l w hC hc h8 hl
    exact key_Split.calls A c l _ w hC hc (by unfold key_Split.f; rw [if_pos ⟨all8K.2 h8, hl⟩])

end Go.Proofs.Ytglcopljhanhmaa.PKeySplits
