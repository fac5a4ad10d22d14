/- What the law UtfRunes reaches: each function with its contract. -/
import Derived.Test.YtglcopljhanhmaaPUtfRunesx0
import Derived.Test.YtglcopljhanhmaaPUtfRunesx1
namespace Go.Proofs.Ytglcopljhanhmaa.PUtfRunes
open Go.RowKit Go.Proofs.YtglcopljhanhmaaW.PrintWords Go.Proofs.YtglcopljhanhmaaW.PrintLast Go.Proofs.YtglcopljhanhmaaW.PrintMore
attribute [local go_sem] max2_int min2_int max_two min_two max_three min_three max_four min_four   -- for this text's walks alone
set_option linter.unusedVariables false
set_option linter.unusedSimpArgs false

/-! ### utf_Valid: function 20 -/
def utf_Valid.l0 : Nat → List Int → Option (Bool)
  | 0, _ => none
  | k + 1, x0 => if (x0.length : Int) > 0 then ((utf_parse.f k x0).bind fun bt190 => (if bt190.2.2 = true then (some false) else (if bt190.1 = 65533 then (if bt190.2.1 = 3 then (if 0 < (x0.length : Int) then (if (rd x0 0) = 239 then (if 1 < (x0.length : Int) then (if (rd x0 1) = 191 then (if 2 < (x0.length : Int) then (if (rd x0 2) = 189 then (if 0 ≤ bt190.2.1 then (if bt190.2.1 ≤ (x0.length : Int) then (utf_Valid.l0 k (x0.drop (bt190.2.1 : Int).toNat)) else (none)) else (none)) else (some false)) else (none)) else (some false)) else (none)) else (some false)) else (none)) else (some false)) else (if 0 ≤ bt190.2.1 then (if bt190.2.1 ≤ (x0.length : Int) then (utf_Valid.l0 k (x0.drop (bt190.2.1 : Int).toNat)) else (none)) else (none))))) else (some true)
def utf_Valid.f (k : Nat) (l0 : List Int) : Option (Bool) := utf_Valid.l0 k l0
theorem utf_Valid.mono_l : ∀ k, (∀ y0, LeO (utf_Valid.l0 k y0) (utf_Valid.l0 (k + 1) y0))
  | 0 => fun _ r h => by simp [utf_Valid.l0] at h
  | k + 1 => by
    have ih0 := utf_Valid.mono_l k
    · intro y0
      unfold utf_Valid.l0
      repeat' first
      | (with_reducible exact ih0 _)
      | (with_reducible exact utf_parse.mono _ _)
      | (with_reducible exact LeO.refl _)
      | (with_reducible exact LeO.none _)
      | (with_reducible refine LeO.ite ?_ ?_)
      | (with_reducible refine LeO.bind ?_ (fun _ => ?_))
      | exact ih0 _
      | exact utf_parse.mono _ _
      | exact LeO.none _
      | refine LeO.ite ?_ ?_
      | refine LeO.bind ?_ (fun _ => ?_)
theorem utf_Valid.mono : ∀ a0 k, LeO (utf_Valid.f k a0) (utf_Valid.f (k + 1) a0) := by
  intro a0 k
  have ih0 := utf_Valid.mono_l k
  unfold utf_Valid.f
  repeat' first
      | (with_reducible exact ih0 _)
      | (with_reducible exact utf_parse.mono _ _)
      | (with_reducible exact LeO.refl _)
      | (with_reducible exact LeO.none _)
      | (with_reducible refine LeO.ite ?_ ?_)
      | (with_reducible refine LeO.bind ?_ (fun _ => ?_))
      | exact ih0 _
      | exact utf_parse.mono _ _
      | exact LeO.none _
      | refine LeO.ite ?_ ?_
      | refine LeO.bind ?_ (fun _ => ?_)
set_option maxHeartbeats 8000000 in
set_option maxRecDepth 100000 in
theorem utf_Valid.calls (k : Nat) (P0_ : Nat → Prop) (A0 : Option Addr) (c0 : Nat) (l0 : List Int) (r : Bool) (w : World) (hs0 : Kd.V (Kd.int .u8) 5 w w.heap.size (fun k_ => P0_ k_) (.slice A0 l0.length c0) l0) (h : utf_Valid.f k l0 = some r) :
    Calls Try.prog 20 #[.slice A0 l0.length c0] w fun e w' => e = .returned (.bool r) ∧ Below w.heap.size w w' := by
  have HO0 := Aside0.mk (show Kd.V (Kd.int .u8) 5 w w.heap.size (fun k_ => (P0_ k_ ∨ w.heap.size ≤ k_)) (.slice A0 l0.length c0) l0 from Kd.V_mono hs0 (fun k_ hk => .inl hk))
  have HB := Aside0.mk (Below.refl w.heap.size w)
  have H : (utf_Valid.l0 k l0) = some r := h
  clear h
  have H' := Aside0.mk H
  clear H
  go_enter Try.func20, Try.ntmps20
  go_wp2
  go_loopg [0] k (fun kq v0 w' => ∃ (x0_1 : List Int), Aside0 (utf_Valid.l0 kq x0_1 = some r) ∧ Aside0 (kq ≤ k) ∧ Aside0 (Kd.V (Kd.int .u8) 5 w' w.heap.size (fun k_ => (P0_ k_ ∨ w.heap.size ≤ k_)) v0 x0_1) ∧ Aside0 (Below w.heap.size w w'))
  case atStart => exact ⟨(l0), H', ⟨Nat.le_refl _⟩, ⟨by (with_reducible repeat (first | apply Kd.V_alloc | apply Kd.V_drewN | apply Kd.V_drew)); exact HO0.out⟩, ⟨by repeat (first | (with_reducible first | exact HB.out | apply below_alloc | apply pw_below_drewN | apply below_drew1) | exact HB.out)⟩⟩
  case round =>
    clear H'
    obtain ⟨x0_1, HA, HK1, HO_0, HB⟩ := hrel
    cases gk with
    | zero => exact absurd HA.out (by simp [utf_Valid.l0])
    | succ k1 =>
      have H := HA.out
      clear HA
      simp only [utf_Valid.l0] at H
      by_cases c2 : (x0_1.length : Int) > 0
      · rw [if_pos c2] at H
        have c2b0 : decide (0 < (x0_1.length : Int)) = true := decide_eq_true c2
        have c2b1 : decide (0 < x0_1.length) = true := decide_eq_true (by omega)
        clear c2
        replace H := Option.bind_eq_some_iff.mp H
        obtain ⟨⟨t190, t191, t192⟩, A30, H⟩ := H
        replace H : (if t192 = true then (some false) else (if t190 = 65533 then (if t191 = 3 then (if 0 < (x0_1.length : Int) then (if (rd x0_1 0) = 239 then (if 1 < (x0_1.length : Int) then (if (rd x0_1 1) = 191 then (if 2 < (x0_1.length : Int) then (if (rd x0_1 2) = 189 then (if 0 ≤ t191 then (if t191 ≤ (x0_1.length : Int) then (utf_Valid.l0 k1 (x0_1.drop (t191 : Int).toNat)) else (none)) else (none)) else (some false)) else (none)) else (some false)) else (none)) else (some false)) else (none)) else (some false)) else (if 0 ≤ t191 then (if t191 ≤ (x0_1.length : Int) then (utf_Valid.l0 k1 (x0_1.drop (t191 : Int).toNat)) else (none)) else (none)))) = some r := H
        have A3 := Aside0.mk A30
        clear A30
        by_cases c4 : t192 = true
        · subst c4
          have H1 : (some false) = some r := by rw [if_pos rfl] at H; exact H
          clear H
          have H := H1
          clear H1
          obtain rfl := Option.some.inj H
          obtain ⟨Ao5, co5, eo5⟩ := Kd.V_slice HO_0.out
          subst eo5
          go_wp2_with (first | ((with_reducible refine gate_callee (f := 55) rfl ?_); refine goesL_ (some 11) rfl rfl Try.func55 (by kernel_rfl) rfl #[.slice Ao5 x0_1.length co5] rfl (by (try simp only [List.map_toArray, List.map_cons, List.map_nil]); first | done | rfl | (simp only [List.length_drop, List.length_take]; rfl)) ?_; (with_reducible refine (utf_parse.calls k1 _ _ x0_1 t190 t191 true _ ?side1 ?side2 A3.out).mono ?_); (case side1 => repeat (first | exact (Kd.V_reads' HO_0.out).2.2 | (with_reducible refine Kd.C_alloc ?_ _) | (with_reducible refine Kd.C_drewN ?_ _) | (with_reducible refine Kd.C_drew ?_))); (case side2 => exact (Kd.V_reads' HO_0.out).2.1); rintro e w' ⟨rfl, ⟨nd, rfl⟩⟩; refine ⟨_, rfl, ?_⟩))
          go_ret
          exact ⟨by first | rfl | (simp [errW_none, errW_some] <;> rfl) | (simp [*, errW_none, errW_some] <;> rfl), by repeat (first | (with_reducible first | exact HB.out | apply below_alloc | apply pw_below_drewN | apply below_drew1) | exact HB.out)⟩
        · replace c4 := Bool.eq_false_iff.mpr c4
          subst c4
          have H1 : (if t190 = 65533 then (if t191 = 3 then (if 0 < (x0_1.length : Int) then (if (rd x0_1 0) = 239 then (if 1 < (x0_1.length : Int) then (if (rd x0_1 1) = 191 then (if 2 < (x0_1.length : Int) then (if (rd x0_1 2) = 189 then (if 0 ≤ t191 then (if t191 ≤ (x0_1.length : Int) then (utf_Valid.l0 k1 (x0_1.drop (t191 : Int).toNat)) else (none)) else (none)) else (some false)) else (none)) else (some false)) else (none)) else (some false)) else (none)) else (some false)) else (if 0 ≤ t191 then (if t191 ≤ (x0_1.length : Int) then (utf_Valid.l0 k1 (x0_1.drop (t191 : Int).toNat)) else (none)) else (none))) = some r := by rw [if_neg (show ¬ (false = true) by decide)] at H; exact H
          clear H
          have H := H1
          clear H1
          by_cases c6 : t190 = 65533
          · rw [if_pos c6] at H
            have c6b0 : (t190 == 65533) = true := beq_iff_eq.mpr c6
            have c6b1 : (t190 != 65533) = false := bne_eq_false_iff_eq.mpr c6
            clear c6
            by_cases c7 : t191 = 3
            · rw [if_pos c7] at H
              have c7b0 : (t191 == 3) = true := beq_iff_eq.mpr c7
              have c7b1 : (t191 != 3) = false := bne_eq_false_iff_eq.mpr c7
              clear c7
              by_cases c8 : 0 < (x0_1.length : Int)
              · rw [if_pos c8] at H
                have c8b0 : decide (0 < (x0_1.length : Int)) = true := decide_eq_true c8
                have c8b1 : decide (0 < x0_1.length) = true := decide_eq_true (by omega)
                clear c8
                by_cases c9 : (rd x0_1 0) = 239
                · rw [if_pos c9] at H
                  have c9b0 : ((rd x0_1 0) == 239) = true := beq_iff_eq.mpr c9
                  have c9b1 : ((rd x0_1 0) != 239) = false := bne_eq_false_iff_eq.mpr c9
                  clear c9
                  by_cases c10 : 1 < (x0_1.length : Int)
                  · rw [if_pos c10] at H
                    have c10b0 : decide (1 < (x0_1.length : Int)) = true := decide_eq_true c10
                    have c10b1 : decide (1 < x0_1.length) = true := decide_eq_true (by omega)
                    clear c10
                    by_cases c11 : (rd x0_1 1) = 191
                    · rw [if_pos c11] at H
                      have c11b0 : ((rd x0_1 1) == 191) = true := beq_iff_eq.mpr c11
                      have c11b1 : ((rd x0_1 1) != 191) = false := bne_eq_false_iff_eq.mpr c11
                      clear c11
                      by_cases c12 : 2 < (x0_1.length : Int)
                      · rw [if_pos c12] at H
                        have c12b0 : decide (2 < (x0_1.length : Int)) = true := decide_eq_true c12
                        have c12b1 : decide (2 < x0_1.length) = true := decide_eq_true (by omega)
                        clear c12
                        by_cases c13 : (rd x0_1 2) = 189
                        · rw [if_pos c13] at H
                          have c13b0 : ((rd x0_1 2) == 189) = true := beq_iff_eq.mpr c13
                          have c13b1 : ((rd x0_1 2) != 189) = false := bne_eq_false_iff_eq.mpr c13
                          clear c13
                          by_cases c14 : 0 ≤ t191
                          · rw [if_pos c14] at H
                            have c14b0 := eq_true c14
                            have c14b1 : decide (0 ≤ t191) = true := decide_eq_true c14
                            clear c14
                            by_cases c15 : t191 ≤ (x0_1.length : Int)
                            · rw [if_pos c15] at H
                              have c15b0 := eq_true c15
                              have c15b1 : decide (t191 ≤ (x0_1.length : Int)) = true := decide_eq_true c15
                              clear c15
                              obtain ⟨y196, hy196⟩ : ∃ y_ : List Int, y_ = (x0_1.drop (t191 : Int).toNat) := ⟨_, rfl⟩
                              replace H : (utf_Valid.l0 k1 y196) = some r := by first | (rw [hy196]; with_reducible exact H) | (have H2_ := (Option.bind_some _ _).symm.trans H; rw [hy196]; with_reducible exact H2_) | (have H2_ := (Option.bind_some _ _).symm.trans H; with_reducible exact H2_) | with_reducible exact H | (rw [hy196]; exact H) | exact H
                              have Ny196 := Aside0.mk hy196
                              clear hy196
                              have H' := Aside0.mk H
                              clear H
                              obtain ⟨Ao16, co16, eo16⟩ := Kd.V_slice HO_0.out
                              subst eo16
                              go_wp2_with (first | ((with_reducible refine gate_callee (f := 55) rfl ?_); refine goesL_ (some 11) rfl rfl Try.func55 (by kernel_rfl) rfl #[.slice Ao16 x0_1.length co16] rfl (by (try simp only [List.map_toArray, List.map_cons, List.map_nil]); first | done | rfl | (simp only [List.length_drop, List.length_take]; rfl)) ?_; (with_reducible refine (utf_parse.calls k1 _ _ x0_1 t190 t191 false _ ?side1 ?side2 A3.out).mono ?_); (case side1 => repeat (first | exact (Kd.V_reads' HO_0.out).2.2 | (with_reducible refine Kd.C_alloc ?_ _) | (with_reducible refine Kd.C_drewN ?_ _) | (with_reducible refine Kd.C_drew ?_))); (case side2 => exact (Kd.V_reads' HO_0.out).2.1); rintro e w' ⟨rfl, ⟨nd, rfl⟩⟩; refine ⟨_, rfl, ?_⟩; have p193 : 0 ≤ (0 : Int) := (by omega); have q193 : 0 < (x0_1.length : Int) := of_decide_eq_true (by first | (with_reducible assumption) | assumption); obtain ⟨ad193, e193, hx193_0⟩ := Kd.at_int (Kd.V_reads' HO_0.out).2.2 0 p193 q193; cases e193; have qi193 : (0 < x0_1.length) = True := eq_true (by omega); (try rw [show ((0 : Int)).toNat = 0 from rfl] at hx193_0); (try rw [Addr.add_zero'] at hx193_0); replace p193 := eq_true p193; replace q193 := eq_true q193; have p194 : 0 ≤ (1 : Int) := (by omega); have q194 : 1 < (x0_1.length : Int) := of_decide_eq_true (by first | (with_reducible assumption) | assumption); obtain ⟨ad194, e194, hx194_0⟩ := Kd.at_int (Kd.V_reads' HO_0.out).2.2 1 p194 q194; obtain rfl : ad193 = ad194 := (by injection e194); (try simp only [show (1 : Int).toNat = 1 from rfl, Nat.reduceMul, Nat.reduceEqDiff, Go.Addr.add, ↓reduceIte] at hx194_0); have qi194 : (1 < x0_1.length) = True := eq_true (by omega); (try rw [show ((1 : Int)).toNat = 1 from rfl] at hx194_0); replace p194 := eq_true p194; replace q194 := eq_true q194; have p195 : 0 ≤ (2 : Int) := (by omega); have q195 : 2 < (x0_1.length : Int) := of_decide_eq_true (by first | (with_reducible assumption) | assumption); obtain ⟨ad195, e195, hx195_0⟩ := Kd.at_int (Kd.V_reads' HO_0.out).2.2 2 p195 q195; obtain rfl : ad193 = ad195 := (by injection e195); (try simp only [show (2 : Int).toNat = 2 from rfl, Nat.reduceMul, Nat.reduceEqDiff, Go.Addr.add, ↓reduceIte] at hx195_0); have qi195 : (2 < x0_1.length) = True := eq_true (by omega); (try rw [show ((2 : Int)).toNat = 2 from rfl] at hx195_0); replace p195 := eq_true p195; replace q195 := eq_true q195; have q17 : (t191 : Int) ≤ ((x0_1.length : Int) : Int) := of_decide_eq_true (by first | (with_reducible assumption) | assumption); obtain ⟨i017, hi017, _, hsz17, _⟩ := info_parts info5; have hroom17 : x0_1.length ≤ co16 := (Kd.V_reads' HO_0.out).2.1; have hC17 : Kd.F (Kd.int .u8) _ _ (some ad193) x0_1.length x0_1 := (Kd.V_at (base := w.heap.size) HO_0.out).2.2; have q017 : (0 : Int) ≤ (t191 : Int) := of_decide_eq_true (by first | (with_reducible assumption) | assumption); have hcut17 := cut_from (P := Try.prog) 22 5 .i64 Try.underlying22 hi017 1 hsz17 (some ad193) x0_1.length co16 t191 q017 q17; have hr17 := Kd.F_cut (m := (t191 : Int).toNat) (c := co16) hC17 (by omega) hroom17; obtain ⟨A17, hA17⟩ : ∃ A1, A1 = (if co16 = (t191 : Int).toNat then (some ad193) else ((some ad193) : Option Addr).map (·.add ((t191 : Int).toNat * 1))) := ⟨_, rfl⟩; obtain ⟨c17, hc17⟩ : ∃ c1, c1 = co16 - (t191 : Int).toNat := ⟨_, rfl⟩; have hy17 : y196.length = x0_1.length - (t191 : Int).toNat := (by rw [Ny196.out, List.length_drop] <;> omega); rw [show (x0_1).drop (t191 : Int).toNat = y196 from Ny196.out.symm] at hr17; replace hr17 : Kd.F (Kd.int .u8) _ _ A17 y196.length y196 := (by rw [hA17]; exact hr17); rw [← hy17, ← hA17, ← hc17] at hcut17; have HO200 := Aside0.mk (show Kd.V (Kd.int .u8) 5 _ w.heap.size _ (.slice A17 y196.length c17) y196 from Kd.V_mk (by rw [hy17, hc17]; exact Nat.sub_le_sub_right hroom17 _) hr17); have HC200 := Aside0.mk (show y196.length ≤ c17 from by rw [hy17, hc17]; exact Nat.sub_le_sub_right hroom17 _); clear hr17 hC17 hroom17 hi017 hsz17 hc17; have KY17 := Aside0.mk hy17; have KA17 := Aside0.mk hA17; clear hy17 hA17; replace q17 := eq_true q17))
                              go_roundg k1
                              case measure => have := HK1.out; omega
                              case rel => exact ⟨(y196), H', ⟨by have := HK1.out; omega⟩, ⟨by (with_reducible repeat (first | apply Kd.V_alloc | apply Kd.V_drewN | apply Kd.V_drew)); exact HO200.out⟩, ⟨by repeat (first | (with_reducible first | exact HB.out | apply below_alloc | apply pw_below_drewN | apply below_drew1) | exact HB.out)⟩⟩
                            · rw [if_neg c15] at H
                              exact absurd H (by simp)
                          · rw [if_neg c14] at H
                            exact absurd H (by simp)
                        · rw [if_neg c13] at H
                          have c13b0 : ((rd x0_1 2) == 189) = false := beq_eq_false_iff_ne.mpr c13
                          have c13b1 : ((rd x0_1 2) != 189) = true := bne_iff_ne.mpr c13
                          obtain rfl := Option.some.inj H
                          obtain ⟨Ao18, co18, eo18⟩ := Kd.V_slice HO_0.out
                          subst eo18
                          go_wp2_with (first | ((with_reducible refine gate_callee (f := 55) rfl ?_); refine goesL_ (some 11) rfl rfl Try.func55 (by kernel_rfl) rfl #[.slice Ao18 x0_1.length co18] rfl (by (try simp only [List.map_toArray, List.map_cons, List.map_nil]); first | done | rfl | (simp only [List.length_drop, List.length_take]; rfl)) ?_; (with_reducible refine (utf_parse.calls k1 _ _ x0_1 t190 t191 false _ ?side1 ?side2 A3.out).mono ?_); (case side1 => repeat (first | exact (Kd.V_reads' HO_0.out).2.2 | (with_reducible refine Kd.C_alloc ?_ _) | (with_reducible refine Kd.C_drewN ?_ _) | (with_reducible refine Kd.C_drew ?_))); (case side2 => exact (Kd.V_reads' HO_0.out).2.1); rintro e w' ⟨rfl, ⟨nd, rfl⟩⟩; refine ⟨_, rfl, ?_⟩; have p193 : 0 ≤ (0 : Int) := (by omega); have q193 : 0 < (x0_1.length : Int) := of_decide_eq_true (by first | (with_reducible assumption) | assumption); obtain ⟨ad193, e193, hx193_0⟩ := Kd.at_int (Kd.V_reads' HO_0.out).2.2 0 p193 q193; cases e193; have qi193 : (0 < x0_1.length) = True := eq_true (by omega); (try rw [show ((0 : Int)).toNat = 0 from rfl] at hx193_0); (try rw [Addr.add_zero'] at hx193_0); replace p193 := eq_true p193; replace q193 := eq_true q193; have p194 : 0 ≤ (1 : Int) := (by omega); have q194 : 1 < (x0_1.length : Int) := of_decide_eq_true (by first | (with_reducible assumption) | assumption); obtain ⟨ad194, e194, hx194_0⟩ := Kd.at_int (Kd.V_reads' HO_0.out).2.2 1 p194 q194; obtain rfl : ad193 = ad194 := (by injection e194); (try simp only [show (1 : Int).toNat = 1 from rfl, Nat.reduceMul, Nat.reduceEqDiff, Go.Addr.add, ↓reduceIte] at hx194_0); have qi194 : (1 < x0_1.length) = True := eq_true (by omega); (try rw [show ((1 : Int)).toNat = 1 from rfl] at hx194_0); replace p194 := eq_true p194; replace q194 := eq_true q194; have p195 : 0 ≤ (2 : Int) := (by omega); have q195 : 2 < (x0_1.length : Int) := of_decide_eq_true (by first | (with_reducible assumption) | assumption); obtain ⟨ad195, e195, hx195_0⟩ := Kd.at_int (Kd.V_reads' HO_0.out).2.2 2 p195 q195; obtain rfl : ad193 = ad195 := (by injection e195); (try simp only [show (2 : Int).toNat = 2 from rfl, Nat.reduceMul, Nat.reduceEqDiff, Go.Addr.add, ↓reduceIte] at hx195_0); have qi195 : (2 < x0_1.length) = True := eq_true (by omega); (try rw [show ((2 : Int)).toNat = 2 from rfl] at hx195_0); replace p195 := eq_true p195; replace q195 := eq_true q195))
                          go_ret
                          exact ⟨by first | rfl | (simp [errW_none, errW_some] <;> rfl) | (simp [*, errW_none, errW_some] <;> rfl), by repeat (first | (with_reducible first | exact HB.out | apply below_alloc | apply pw_below_drewN | apply below_drew1) | exact HB.out)⟩
                      · rw [if_neg c12] at H
                        exact absurd H (by simp)
                    · rw [if_neg c11] at H
                      have c11b0 : ((rd x0_1 1) == 191) = false := beq_eq_false_iff_ne.mpr c11
                      have c11b1 : ((rd x0_1 1) != 191) = true := bne_iff_ne.mpr c11
                      obtain rfl := Option.some.inj H
                      obtain ⟨Ao19, co19, eo19⟩ := Kd.V_slice HO_0.out
                      subst eo19
                      go_wp2_with (first | ((with_reducible refine gate_callee (f := 55) rfl ?_); refine goesL_ (some 11) rfl rfl Try.func55 (by kernel_rfl) rfl #[.slice Ao19 x0_1.length co19] rfl (by (try simp only [List.map_toArray, List.map_cons, List.map_nil]); first | done | rfl | (simp only [List.length_drop, List.length_take]; rfl)) ?_; (with_reducible refine (utf_parse.calls k1 _ _ x0_1 t190 t191 false _ ?side1 ?side2 A3.out).mono ?_); (case side1 => repeat (first | exact (Kd.V_reads' HO_0.out).2.2 | (with_reducible refine Kd.C_alloc ?_ _) | (with_reducible refine Kd.C_drewN ?_ _) | (with_reducible refine Kd.C_drew ?_))); (case side2 => exact (Kd.V_reads' HO_0.out).2.1); rintro e w' ⟨rfl, ⟨nd, rfl⟩⟩; refine ⟨_, rfl, ?_⟩; have p193 : 0 ≤ (0 : Int) := (by omega); have q193 : 0 < (x0_1.length : Int) := of_decide_eq_true (by first | (with_reducible assumption) | assumption); obtain ⟨ad193, e193, hx193_0⟩ := Kd.at_int (Kd.V_reads' HO_0.out).2.2 0 p193 q193; cases e193; have qi193 : (0 < x0_1.length) = True := eq_true (by omega); (try rw [show ((0 : Int)).toNat = 0 from rfl] at hx193_0); (try rw [Addr.add_zero'] at hx193_0); replace p193 := eq_true p193; replace q193 := eq_true q193; have p194 : 0 ≤ (1 : Int) := (by omega); have q194 : 1 < (x0_1.length : Int) := of_decide_eq_true (by first | (with_reducible assumption) | assumption); obtain ⟨ad194, e194, hx194_0⟩ := Kd.at_int (Kd.V_reads' HO_0.out).2.2 1 p194 q194; obtain rfl : ad193 = ad194 := (by injection e194); (try simp only [show (1 : Int).toNat = 1 from rfl, Nat.reduceMul, Nat.reduceEqDiff, Go.Addr.add, ↓reduceIte] at hx194_0); have qi194 : (1 < x0_1.length) = True := eq_true (by omega); (try rw [show ((1 : Int)).toNat = 1 from rfl] at hx194_0); replace p194 := eq_true p194; replace q194 := eq_true q194))
                      go_ret
                      exact ⟨by first | rfl | (simp [errW_none, errW_some] <;> rfl) | (simp [*, errW_none, errW_some] <;> rfl), by repeat (first | (with_reducible first | exact HB.out | apply below_alloc | apply pw_below_drewN | apply below_drew1) | exact HB.out)⟩
                  · rw [if_neg c10] at H
                    exact absurd H (by simp)
                · rw [if_neg c9] at H
                  have c9b0 : ((rd x0_1 0) == 239) = false := beq_eq_false_iff_ne.mpr c9
                  have c9b1 : ((rd x0_1 0) != 239) = true := bne_iff_ne.mpr c9
                  obtain rfl := Option.some.inj H
                  obtain ⟨Ao20, co20, eo20⟩ := Kd.V_slice HO_0.out
                  subst eo20
                  go_wp2_with (first | ((with_reducible refine gate_callee (f := 55) rfl ?_); refine goesL_ (some 11) rfl rfl Try.func55 (by kernel_rfl) rfl #[.slice Ao20 x0_1.length co20] rfl (by (try simp only [List.map_toArray, List.map_cons, List.map_nil]); first | done | rfl | (simp only [List.length_drop, List.length_take]; rfl)) ?_; (with_reducible refine (utf_parse.calls k1 _ _ x0_1 t190 t191 false _ ?side1 ?side2 A3.out).mono ?_); (case side1 => repeat (first | exact (Kd.V_reads' HO_0.out).2.2 | (with_reducible refine Kd.C_alloc ?_ _) | (with_reducible refine Kd.C_drewN ?_ _) | (with_reducible refine Kd.C_drew ?_))); (case side2 => exact (Kd.V_reads' HO_0.out).2.1); rintro e w' ⟨rfl, ⟨nd, rfl⟩⟩; refine ⟨_, rfl, ?_⟩; have p193 : 0 ≤ (0 : Int) := (by omega); have q193 : 0 < (x0_1.length : Int) := of_decide_eq_true (by first | (with_reducible assumption) | assumption); obtain ⟨ad193, e193, hx193_0⟩ := Kd.at_int (Kd.V_reads' HO_0.out).2.2 0 p193 q193; cases e193; have qi193 : (0 < x0_1.length) = True := eq_true (by omega); (try rw [show ((0 : Int)).toNat = 0 from rfl] at hx193_0); (try rw [Addr.add_zero'] at hx193_0); replace p193 := eq_true p193; replace q193 := eq_true q193))
                  go_ret
                  exact ⟨by first | rfl | (simp [errW_none, errW_some] <;> rfl) | (simp [*, errW_none, errW_some] <;> rfl), by repeat (first | (with_reducible first | exact HB.out | apply below_alloc | apply pw_below_drewN | apply below_drew1) | exact HB.out)⟩
              · rw [if_neg c8] at H
                exact absurd H (by simp)
            · rw [if_neg c7] at H
              have c7b0 : (t191 == 3) = false := beq_eq_false_iff_ne.mpr c7
              have c7b1 : (t191 != 3) = true := bne_iff_ne.mpr c7
              obtain rfl := Option.some.inj H
              obtain ⟨Ao21, co21, eo21⟩ := Kd.V_slice HO_0.out
              subst eo21
              go_wp2_with (first | ((with_reducible refine gate_callee (f := 55) rfl ?_); refine goesL_ (some 11) rfl rfl Try.func55 (by kernel_rfl) rfl #[.slice Ao21 x0_1.length co21] rfl (by (try simp only [List.map_toArray, List.map_cons, List.map_nil]); first | done | rfl | (simp only [List.length_drop, List.length_take]; rfl)) ?_; (with_reducible refine (utf_parse.calls k1 _ _ x0_1 t190 t191 false _ ?side1 ?side2 A3.out).mono ?_); (case side1 => repeat (first | exact (Kd.V_reads' HO_0.out).2.2 | (with_reducible refine Kd.C_alloc ?_ _) | (with_reducible refine Kd.C_drewN ?_ _) | (with_reducible refine Kd.C_drew ?_))); (case side2 => exact (Kd.V_reads' HO_0.out).2.1); rintro e w' ⟨rfl, ⟨nd, rfl⟩⟩; refine ⟨_, rfl, ?_⟩))
              go_ret
              exact ⟨by first | rfl | (simp [errW_none, errW_some] <;> rfl) | (simp [*, errW_none, errW_some] <;> rfl), by repeat (first | (with_reducible first | exact HB.out | apply below_alloc | apply pw_below_drewN | apply below_drew1) | exact HB.out)⟩
          · rw [if_neg c6] at H
            have c6b0 : (t190 == 65533) = false := beq_eq_false_iff_ne.mpr c6
            have c6b1 : (t190 != 65533) = true := bne_iff_ne.mpr c6
            by_cases c22 : 0 ≤ t191
            · rw [if_pos c22] at H
              have c22b0 := eq_true c22
              have c22b1 : decide (0 ≤ t191) = true := decide_eq_true c22
              clear c22
              by_cases c23 : t191 ≤ (x0_1.length : Int)
              · rw [if_pos c23] at H
                have c23b0 := eq_true c23
                have c23b1 : decide (t191 ≤ (x0_1.length : Int)) = true := decide_eq_true c23
                clear c23
                obtain ⟨y201, hy201⟩ : ∃ y_ : List Int, y_ = (x0_1.drop (t191 : Int).toNat) := ⟨_, rfl⟩
                replace H : (utf_Valid.l0 k1 y201) = some r := by first | (rw [hy201]; with_reducible exact H) | (have H2_ := (Option.bind_some _ _).symm.trans H; rw [hy201]; with_reducible exact H2_) | (have H2_ := (Option.bind_some _ _).symm.trans H; with_reducible exact H2_) | with_reducible exact H | (rw [hy201]; exact H) | exact H
                have Ny201 := Aside0.mk hy201
                clear hy201
                have H' := Aside0.mk H
                clear H
                obtain ⟨Ao24, co24, eo24⟩ := Kd.V_slice HO_0.out
                subst eo24
                go_wp2_with (first | ((with_reducible refine gate_callee (f := 55) rfl ?_); refine goesL_ (some 11) rfl rfl Try.func55 (by kernel_rfl) rfl #[.slice Ao24 x0_1.length co24] rfl (by (try simp only [List.map_toArray, List.map_cons, List.map_nil]); first | done | rfl | (simp only [List.length_drop, List.length_take]; rfl)) ?_; (with_reducible refine (utf_parse.calls k1 _ _ x0_1 t190 t191 false _ ?side1 ?side2 A3.out).mono ?_); (case side1 => repeat (first | exact (Kd.V_reads' HO_0.out).2.2 | (with_reducible refine Kd.C_alloc ?_ _) | (with_reducible refine Kd.C_drewN ?_ _) | (with_reducible refine Kd.C_drew ?_))); (case side2 => exact (Kd.V_reads' HO_0.out).2.1); rintro e w' ⟨rfl, ⟨nd, rfl⟩⟩; refine ⟨_, rfl, ?_⟩; have q25 : (t191 : Int) ≤ ((x0_1.length : Int) : Int) := of_decide_eq_true (by first | (with_reducible assumption) | assumption); obtain ⟨i025, hi025, _, hsz25, _⟩ := info_parts info5; have hroom25 : x0_1.length ≤ co24 := (Kd.V_reads' HO_0.out).2.1; have hC25 : Kd.F (Kd.int .u8) _ _ Ao24 x0_1.length x0_1 := (Kd.V_at (base := w.heap.size) HO_0.out).2.2; have q025 : (0 : Int) ≤ (t191 : Int) := of_decide_eq_true (by first | (with_reducible assumption) | assumption); have hcut25 := cut_from (P := Try.prog) 22 5 .i64 Try.underlying22 hi025 1 hsz25 Ao24 x0_1.length co24 t191 q025 q25; have hr25 := Kd.F_cut (m := (t191 : Int).toNat) (c := co24) hC25 (by omega) hroom25; obtain ⟨A25, hA25⟩ : ∃ A1, A1 = (if co24 = (t191 : Int).toNat then Ao24 else (Ao24 : Option Addr).map (·.add ((t191 : Int).toNat * 1))) := ⟨_, rfl⟩; obtain ⟨c25, hc25⟩ : ∃ c1, c1 = co24 - (t191 : Int).toNat := ⟨_, rfl⟩; have hy25 : y201.length = x0_1.length - (t191 : Int).toNat := (by rw [Ny201.out, List.length_drop] <;> omega); rw [show (x0_1).drop (t191 : Int).toNat = y201 from Ny201.out.symm] at hr25; replace hr25 : Kd.F (Kd.int .u8) _ _ A25 y201.length y201 := (by rw [hA25]; exact hr25); rw [← hy25, ← hA25, ← hc25] at hcut25; have HO205 := Aside0.mk (show Kd.V (Kd.int .u8) 5 _ w.heap.size _ (.slice A25 y201.length c25) y201 from Kd.V_mk (by rw [hy25, hc25]; exact Nat.sub_le_sub_right hroom25 _) hr25); have HC205 := Aside0.mk (show y201.length ≤ c25 from by rw [hy25, hc25]; exact Nat.sub_le_sub_right hroom25 _); clear hr25 hC25 hroom25 hi025 hsz25 hc25; have KY25 := Aside0.mk hy25; have KA25 := Aside0.mk hA25; clear hy25 hA25; replace q25 := eq_true q25))
                go_roundg k1
                case measure => have := HK1.out; omega
                case rel => exact ⟨(y201), H', ⟨by have := HK1.out; omega⟩, ⟨by (with_reducible repeat (first | apply Kd.V_alloc | apply Kd.V_drewN | apply Kd.V_drew)); exact HO205.out⟩, ⟨by repeat (first | (with_reducible first | exact HB.out | apply below_alloc | apply pw_below_drewN | apply below_drew1) | exact HB.out)⟩⟩
              · rw [if_neg c23] at H
                exact absurd H (by simp)
            · rw [if_neg c22] at H
              exact absurd H (by simp)
      · rw [if_neg c2] at H
        have c2b0 : decide (0 < (x0_1.length : Int)) = false := decide_eq_false c2
        have c2b1 : decide (0 < x0_1.length) = false := decide_eq_false (by omega)
        clear c2
        obtain rfl := Option.some.inj H
        obtain ⟨Ao26, co26, eo26⟩ := Kd.V_slice HO_0.out
        subst eo26
        go_wp2
        go_ret
        exact ⟨by first | rfl | (simp [errW_none, errW_some] <;> rfl) | (simp [*, errW_none, errW_some] <;> rfl), by repeat (first | (with_reducible first | exact HB.out | apply below_alloc | apply pw_below_drewN | apply below_drew1) | exact HB.out)⟩

/-! ### prolepsisref02_All: function 21 -/
def prolepsisref02_All.l0 : Nat → List Int → List Int → Int → Option (List Int)
  | 0, _, _, _ => none
  | k + 1, x0, x3, x4 => if x4 < (x0.length : Int) then (if 0 ≤ x4 then ((prolepsisref02_Bytes.f k (rd x0 x4)).bind fun t207 => (if x3.length + t207.length < 140737488355328 then (prolepsisref02_All.l0 k x0 (x3 ++ t207) (wrap64 (x4 + 1))) else (none))) else (none)) else (some x3)
def prolepsisref02_All.f (k : Nat) (l0 : List Int) : Option (List Int) := prolepsisref02_All.l0 k l0 ([] : List Int) 0
theorem prolepsisref02_All.mono_l : ∀ k, (∀ y0 y1 y2, LeO (prolepsisref02_All.l0 k y0 y1 y2) (prolepsisref02_All.l0 (k + 1) y0 y1 y2))
  | 0 => fun _ _ _ r h => by simp [prolepsisref02_All.l0] at h
  | k + 1 => by
    have ih0 := prolepsisref02_All.mono_l k
    · intro y0 y1 y2
      unfold prolepsisref02_All.l0
      repeat' first
      | (with_reducible exact ih0 _ _ _)
      | (with_reducible exact prolepsisref02_Bytes.mono _ _)
      | (with_reducible exact LeO.refl _)
      | (with_reducible exact LeO.none _)
      | (with_reducible refine LeO.ite ?_ ?_)
      | (with_reducible refine LeO.bind ?_ (fun _ => ?_))
      | exact ih0 _ _ _
      | exact prolepsisref02_Bytes.mono _ _
      | exact LeO.none _
      | refine LeO.ite ?_ ?_
      | refine LeO.bind ?_ (fun _ => ?_)
theorem prolepsisref02_All.mono : ∀ a0 k, LeO (prolepsisref02_All.f k a0) (prolepsisref02_All.f (k + 1) a0) := by
  intro a0 k
  have ih0 := prolepsisref02_All.mono_l k
  unfold prolepsisref02_All.f
  repeat' first
      | (with_reducible exact ih0 _ _ _)
      | (with_reducible exact prolepsisref02_Bytes.mono _ _)
      | (with_reducible exact LeO.refl _)
      | (with_reducible exact LeO.none _)
      | (with_reducible refine LeO.ite ?_ ?_)
      | (with_reducible refine LeO.bind ?_ (fun _ => ?_))
      | exact ih0 _ _ _
      | exact prolepsisref02_Bytes.mono _ _
      | exact LeO.none _
      | refine LeO.ite ?_ ?_
      | refine LeO.bind ?_ (fun _ => ?_)
set_option maxHeartbeats 8000000 in
set_option maxRecDepth 100000 in
theorem prolepsisref02_All.calls (k : Nat) (A0 : Option Addr) (c0 : Nat) (l0 : List Int) (r : List Int) (w : World) (hr0 : Kd.C (Kd.int .i64) w A0 l0.length l0) (hc0 : l0.length ≤ c0) (h : prolepsisref02_All.f k l0 = some r) :
    Calls Try.prog 21 #[.slice A0 l0.length c0] w fun e w' => ∃ v0_ : Value, e = .returned (v0_) ∧ Kd.R (Kd.int .u8) 5 w' w.heap.size (fun _ => True) v0_ r ∧ Below w.heap.size w w' := by
  have HR0 := Aside0.mk hr0
  have HC0 := Aside0.mk hc0
  clear hr0 hc0
  have HB := Aside0.mk (Below.refl w.heap.size w)
  have H : (prolepsisref02_All.l0 k l0 ([] : List Int) 0) = some r := h
  clear h
  have H' := Aside0.mk H
  clear H
  go_enter Try.func21, Try.ntmps21
  go_wp2
  go_loopg [3, 4] k (fun kq v3 v4 w' => ∃ (x3_1 : List Int) (x4_1 : Int), v4 = .int .i64 x4_1 ∧ Aside0 (prolepsisref02_All.l0 kq l0 x3_1 x4_1 = some r) ∧ Aside0 (kq ≤ k) ∧ Aside0 (Kd.R (Kd.int .u8) 5 w' w.heap.size (fun _ => True) v3 x3_1) ∧ Aside0 (Below w.heap.size w w'))
  case atStart => exact ⟨(([] : List Int)), (0), (by first | rfl | (simp; done) | (simp [*]; done)), H', ⟨Nat.le_refl _⟩, ⟨by first | exact Kd.R_nil _ _ _ _ _ | exact Kd.N_nil _ _ _ _ _ | exact Kd.V_nil _ _ _ _ _ | exact Kd.Q_nil _ _ _ _ _ | exact Kd.S_nil _ _ _ _ _⟩, ⟨by repeat (first | (with_reducible first | exact HB.out | apply below_alloc | apply pw_below_drewN | apply below_drew1) | exact HB.out)⟩⟩
  case round =>
    clear H'
    obtain ⟨x3_1, x4_1, rfl, HA, HK1, HO_3, HB⟩ := hrel
    cases gk with
    | zero => exact absurd HA.out (by simp [prolepsisref02_All.l0])
    | succ k1 =>
      have H := HA.out
      clear HA
      simp only [prolepsisref02_All.l0] at H
      by_cases c2 : x4_1 < (l0.length : Int)
      · rw [if_pos c2] at H
        have c2b0 : decide (x4_1 < (l0.length : Int)) = true := decide_eq_true c2
        clear c2
        by_cases c3 : 0 ≤ x4_1
        · rw [if_pos c3] at H
          have c3b0 : decide (0 ≤ x4_1) = true := decide_eq_true c3
          clear c3
          replace H := Option.bind_eq_some_iff.mp H
          obtain ⟨t207, A40, H⟩ := H
          replace H : (if x3_1.length + t207.length < 140737488355328 then (prolepsisref02_All.l0 k1 l0 (x3_1 ++ t207) (wrap64 (x4_1 + 1))) else (none)) = some r := H
          have A4 := Aside0.mk A40
          clear A40
          by_cases c5 : x3_1.length + t207.length < 140737488355328
          · rw [if_pos c5] at H
            have LMc5 := Aside0.mk c5
            clear c5
            obtain ⟨y210, hy210⟩ : ∃ y_ : List Int, y_ = (x3_1 ++ t207) := ⟨_, rfl⟩
            replace H : (prolepsisref02_All.l0 k1 l0 y210 (wrap64 (x4_1 + 1))) = some r := by first | (rw [hy210]; with_reducible exact H) | (have H2_ := (Option.bind_some _ _).symm.trans H; rw [hy210]; with_reducible exact H2_) | (have H2_ := (Option.bind_some _ _).symm.trans H; with_reducible exact H2_) | with_reducible exact H | (rw [hy210]; exact H) | exact H
            have Ny210 := Aside0.mk hy210
            clear hy210
            have H' := Aside0.mk H
            clear H
            have p206 : 0 ≤ (x4_1 : Int) := of_decide_eq_true (by first | (with_reducible assumption) | assumption)
            have q206 : x4_1 < (l0.length : Int) := of_decide_eq_true (by first | (with_reducible assumption) | assumption)
            obtain ⟨ad206, e206, hx206_0⟩ := Kd.at_int HR0.out x4_1 p206 q206
            cases e206
            replace hx206_0 := (HB.out.cell (World.block_lt_of_cell? w _ hx206_0)).trans hx206_0
            replace p206 := eq_true p206
            replace q206 := eq_true q206
            go_wp2_with (first | ((with_reducible refine gate_callee (f := 59) rfl ?_); refine goesL_ (some 16) rfl rfl Try.func59 (by kernel_rfl) rfl #[.int .i64 (rd l0 x4_1)] rfl (by (try simp only [List.map_toArray, List.map_cons, List.map_nil]); first | done | rfl | (simp only [List.length_drop, List.length_take]; rfl)) ?_; (with_reducible refine (prolepsisref02_Bytes.calls k1 (rd l0 x4_1) t207 _ A4.out).mono ?_); rintro e w6 ⟨v208, rfl, ho0, hb⟩; refine ⟨_, rfl, ?_⟩; have n0_ := Aside0.mk (Kd.R_elder' (by (with_reducible repeat (first | apply Kd.R_alloc | apply Kd.R_drewN | apply Kd.R_drew)); exact HO_3.out) (Kd.R_base ho0) hb); have n1_ := Aside0.mk (Kd.R_lower (Kd.R_new' ho0 (Kd.R_lt (by (with_reducible repeat (first | apply Kd.R_alloc | apply Kd.R_drewN | apply Kd.R_drew)); exact HO_3.out))) (below_size (by repeat (first | (with_reducible first | exact HB.out | apply below_alloc | apply pw_below_drewN | apply below_drew1) | exact HB.out)))); have n2_ := Aside0.mk (below_step (by repeat (first | (with_reducible first | exact HB.out | apply below_alloc | apply pw_below_drewN | apply below_drew1) | exact HB.out)) hb); clear HO_3; clear HB; have HO_3 := n0_; have HO209 := n1_; have HB := n2_; clear n0_ n1_ n2_; (try clear hb); (try clear hb2); (try clear hk); (try clear hi); (try clear ho0); obtain ⟨Ao8, co8, eo8⟩ := Kd.R_slice HO209.out; subst eo8) | ((with_reducible refine gate_builtin (b := .append) (xs := #[.tmp 11, .tmp 16]) rfl ?_); at_builtin; refine Kd.R_append_rows (Kd.int .u8) (w0 := w) w.heap.size rfl (.tmp 11) (.tmp 16) 22 5 (.int .u8 0) 1 rfl Try.underlying22 info5 rfl (by decide) (by omega) u3 x3_1 t207 _ _ _ (fun k_ => some k_ ≠ (.slice Ao8 t207.length co8 : Value).ownBlock) (fun _ => False) rfl rfl ?aO ?aR (fun _ _ h => h) (fun _ h => h.elim) ?aF ?aB ?aS ?aL ?_; (case aR => repeat (first | exact (Kd.R_reads' HO209.out).2.2 | (with_reducible refine Kd.C_alloc ?_ _) | (with_reducible refine Kd.C_drewN ?_ _) | (with_reducible refine Kd.C_drew ?_))); (case aB => exact (by repeat (first | (with_reducible first | exact HB.out | apply below_alloc | apply pw_below_drewN | apply below_drew1) | exact HB.out))); (case aF => exact (fun k_ hk => Kd.fresh' (Kd.R_lt (by (with_reducible repeat (first | apply Kd.R_alloc | apply Kd.R_drewN | apply Kd.R_drew)); exact HO209.out)) k_ hk)); (case aO => exact (by (with_reducible repeat (first | apply Kd.R_alloc | apply Kd.R_drewN | apply Kd.R_drew)); exact Kd.R_mono HO_3.out (fun _ hk => hk.2))); (case aS => exact (below_size (by repeat (first | (with_reducible first | exact HB.out | apply below_alloc | apply pw_below_drewN | apply below_drew1) | exact HB.out)))); (case aL => have := LMc5.out; omega); intro v211 w7 ho hb hg hat; rw [← Ny210.out] at ho; have n0_ := Aside0.mk (Kd.R_after (ok := (fun _ => True)) (by (with_reducible repeat (first | apply Kd.R_alloc | apply Kd.R_drewN | apply Kd.R_drew)); exact HO209.out) hg hat); have n1_ := Aside0.mk (hb); have n2_ := Aside0.mk (ho); clear HO209; clear HB; clear HO_3; have HO209 := n0_; have HB := n1_; have HO212 := n2_; clear n0_ n1_ n2_; clear ho hb hg hat))
            go_roundg k1
            case measure => have := HK1.out; omega
            case rel => exact ⟨(y210), (wrap64 (x4_1 + 1)), (by first | rfl | (simp; done) | (simp [*]; done)), H', ⟨by have := HK1.out; omega⟩, ⟨by (with_reducible repeat (first | apply Kd.R_alloc | apply Kd.R_drewN | apply Kd.R_drew)); exact Kd.R_mono HO212.out (fun _ hk => trivial)⟩, ⟨by repeat (first | (with_reducible first | exact HB.out | apply below_alloc | apply pw_below_drewN | apply below_drew1) | exact HB.out)⟩⟩
          · rw [if_neg c5] at H
            exact absurd H (by simp)
        · rw [if_neg c3] at H
          exact absurd H (by simp)
      · rw [if_neg c2] at H
        have c2b0 : decide (x4_1 < (l0.length : Int)) = false := decide_eq_false c2
        clear c2
        obtain rfl := Option.some.inj H
        go_wp2
        go_ret
        exact ⟨_, by first | rfl | (simp [errW_none, errW_some] <;> rfl) | (simp [*, errW_none, errW_some] <;> rfl), by (with_reducible repeat (first | apply Kd.R_alloc | apply Kd.R_drewN | apply Kd.R_drew)); exact HO_3.out, by repeat (first | (with_reducible first | exact HB.out | apply below_alloc | apply pw_below_drewN | apply below_drew1) | exact HB.out)⟩

end Go.Proofs.Ytglcopljhanhmaa.PUtfRunes
