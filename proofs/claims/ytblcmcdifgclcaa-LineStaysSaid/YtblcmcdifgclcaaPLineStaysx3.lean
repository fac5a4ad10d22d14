/- What the law LineStays reaches: each function with its contract. -/
import Derived.Test.YtblcmcdifgclcaaPLineStaysx0
import Derived.Test.YtblcmcdifgclcaaPLineStaysx1
import Derived.Test.YtblcmcdifgclcaaPLineStaysx2
namespace Go.Proofs.Ytblcmcdifgclcaa.PLineStays
open Go.RowKit Go.Proofs.YtblcmcdifgclcaaW.PrintWords Go.Proofs.YtblcmcdifgclcaaW.PrintLast Go.Proofs.YtblcmcdifgclcaaW.PrintMore
attribute [local go_sem] max2_int min2_int max_two min_two max_three min_three max_four min_four   -- for this text's walks alone
set_option linter.unusedVariables false
set_option linter.unusedSimpArgs false

attribute [local go_sem high] eqA26
/-! ### cell_Cell_97: function 97 -/
def cell_Cell_97.l0 : Nat → List (S26) → List (S26) → Int → Int → Option (Bool)
  | 0, _, _, _, _ => none
  | k + 1, x0, x1, x12, x13 => if x13 < x12 then (if 0 ≤ x13 then (if x13 < (x0.length : Int) then (if x13 < (x1.length : Int) then (if (!(((rd_T26 x0 x13).f0) == ((rd_T26 x1 x13).f0)) || ((!(((rd_T26 x0 x13).f1.f0) == ((rd_T26 x1 x13).f1.f0)) || (!(((rd_T26 x0 x13).f1.f1) == ((rd_T26 x1 x13).f1.f1)))) || (!(((rd_T26 x0 x13).f2) == ((rd_T26 x1 x13).f2)) || ((!(((rd_T26 x0 x13).f3.f0) == ((rd_T26 x1 x13).f3.f0)) || (!(((rd_T26 x0 x13).f3.f1) == ((rd_T26 x1 x13).f3.f1)) || (!(((rd_T26 x0 x13).f3.f2) == ((rd_T26 x1 x13).f3.f2))))))))) = true then (some false) else (cell_Cell_97.l0 k x0 x1 x12 (wrap64 (x13 + 1)))) else (none)) else (none)) else (none)) else (some true)
def cell_Cell_97.f (k : Nat) (l0 : List (S26)) (l1 : List (S26)) : Option (Bool) := if (l0.length : Int) = (l1.length : Int) then (cell_Cell_97.l0 k l0 l1 (l0.length : Int) 0) else (some false)
set_option maxHeartbeats 8000000 in
set_option maxRecDepth 100000 in
theorem cell_Cell_97.calls (k : Nat) (A0 : Option Addr) (c0 : Nat) (l0 : List (S26)) (A1 : Option Addr) (c1 : Nat) (l1 : List (S26)) (r : Bool) (w : World) (hr0 : Kd.C k26 w A0 l0.length l0) (hc0 : l0.length ≤ c0) (hr1 : Kd.C k26 w A1 l1.length l1) (hc1 : l1.length ≤ c1) (h : cell_Cell_97.f k l0 l1 = some r) :
    Calls Try.prog 97 #[.slice A0 l0.length c0, .slice A1 l1.length c1] w fun e w' => e = .returned (.bool r) ∧ Drawn0 w w' := by
  have hu26 := Try.underlying26
  have HR0 := Aside0.mk hr0
  have HC0 := Aside0.mk hc0
  clear hr0 hc0
  have HR1 := Aside0.mk hr1
  have HC1 := Aside0.mk hc1
  clear hr1 hc1
  have H : (if (l0.length : Int) = (l1.length : Int) then (cell_Cell_97.l0 k l0 l1 (l0.length : Int) 0) else (some false)) = some r := h
  clear h
  by_cases c3 : (l0.length : Int) = (l1.length : Int)
  · rw [if_pos c3] at H
    have c3b0 : ((l0.length : Int) == (l1.length : Int)) = true := beq_iff_eq.mpr c3
    have c3b1 : ((l0.length : Int) != (l1.length : Int)) = false := bne_eq_false_iff_eq.mpr c3
    have c3b2 : (l0.length == l1.length) = true := by first | simpa using c3 | (simp at c3 ⊢; omega)
    clear c3
    have H' := Aside0.mk H
    clear H
    go_enter Try.func97, Try.ntmps97
    go_wp2
    repeat (go_quiet (fail); try go_wp2)
    go_loopg [13] k (fun kq v13 w' => ∃ (x13_1 : Int), v13 = .int .i64 x13_1 ∧ Aside0 (cell_Cell_97.l0 kq l0 l1 (l0.length : Int) x13_1 = some r) ∧ Aside0 (kq ≤ k) ∧ Drawn0 w w')
    case atStart => exact ⟨(0), (by first | rfl | (simp; done) | (simp [*]; done)), H', ⟨Nat.le_refl _⟩, by repeat (first | exact Drawn0.refl _ | apply Drawn0.step)⟩
    case round =>
      clear H'
      try clear c1
      try clear p2
      try clear c3
      try clear c3b0
      try clear c3b1
      try clear c3b2
      obtain ⟨x13_1, rfl, HA, HK1, ⟨m1, rfl⟩⟩ := hrel
      cases gk with
      | zero => exact absurd HA.out (by simp [cell_Cell_97.l0])
      | succ k1 =>
        have H := HA.out
        clear HA
        simp only [cell_Cell_97.l0] at H
        by_cases c4 : x13_1 < (l0.length : Int)
        · rw [if_pos c4] at H
          have c4b0 : decide (x13_1 < (l0.length : Int)) = true := decide_eq_true c4
          clear c4
          by_cases c5 : 0 ≤ x13_1
          · rw [if_pos c5] at H
            have c5b0 : decide (0 ≤ x13_1) = true := decide_eq_true c5
            clear c5
            by_cases c6 : x13_1 < (l0.length : Int)
            · rw [if_pos c6] at H
              have c6b0 : decide (x13_1 < (l0.length : Int)) = true := decide_eq_true c6
              clear c6
              by_cases c7 : x13_1 < (l1.length : Int)
              · rw [if_pos c7] at H
                have c7b0 : decide (x13_1 < (l1.length : Int)) = true := decide_eq_true c7
                clear c7
                by_cases c8 : (!(((rd_T26 l0 x13_1).f0) == ((rd_T26 l1 x13_1).f0)) || ((!(((rd_T26 l0 x13_1).f1.f0) == ((rd_T26 l1 x13_1).f1.f0)) || (!(((rd_T26 l0 x13_1).f1.f1) == ((rd_T26 l1 x13_1).f1.f1)))) || (!(((rd_T26 l0 x13_1).f2) == ((rd_T26 l1 x13_1).f2)) || ((!(((rd_T26 l0 x13_1).f3.f0) == ((rd_T26 l1 x13_1).f3.f0)) || (!(((rd_T26 l0 x13_1).f3.f1) == ((rd_T26 l1 x13_1).f3.f1)) || (!(((rd_T26 l0 x13_1).f3.f2) == ((rd_T26 l1 x13_1).f3.f2))))))))) = true
                · rw [if_pos c8] at H
                  have c8b0 : (!(((rd_T26 l0 x13_1).f0) == ((rd_T26 l1 x13_1).f0)) || ((!(((rd_T26 l0 x13_1).f1.f0) == ((rd_T26 l1 x13_1).f1.f0)) || (!(((rd_T26 l0 x13_1).f1.f1) == ((rd_T26 l1 x13_1).f1.f1)))) || (!(((rd_T26 l0 x13_1).f2) == ((rd_T26 l1 x13_1).f2)) || ((!(((rd_T26 l0 x13_1).f3.f0) == ((rd_T26 l1 x13_1).f3.f0)) || (!(((rd_T26 l0 x13_1).f3.f1) == ((rd_T26 l1 x13_1).f3.f1)) || (!(((rd_T26 l0 x13_1).f3.f2) == ((rd_T26 l1 x13_1).f3.f2))))))))) = true := c8
                  clear c8
                  obtain rfl := Option.some.inj H
                  have p161 : 0 ≤ (x13_1 : Int) := of_decide_eq_true (by first | (with_reducible assumption) | assumption)
                  have q161 : x13_1 < (l0.length : Int) := of_decide_eq_true (by first | (with_reducible assumption) | assumption)
                  obtain ⟨ad161, e161, hx161_0, hx161_1, hx161_2, hx161_3, hx161_4, hx161_5, hx161_6⟩ := at_T26 HR0.out x13_1 p161 q161
                  cases e161
                  replace p161 := eq_true p161
                  replace q161 := eq_true q161
                  have p162 : 0 ≤ (x13_1 : Int) := of_decide_eq_true (by first | (with_reducible assumption) | assumption)
                  have q162 : x13_1 < (l1.length : Int) := of_decide_eq_true (by first | (with_reducible assumption) | assumption)
                  obtain ⟨ad162, e162, hx162_0, hx162_1, hx162_2, hx162_3, hx162_4, hx162_5, hx162_6⟩ := at_T26 HR1.out x13_1 p162 q162
                  cases e162
                  replace p162 := eq_true p162
                  replace q162 := eq_true q162
                  go_wp2
                  repeat (go_quiet (fail); try go_wp2)
                  go_ret
                  exact ⟨by first | rfl | (simp; done) | (simp [*]; done), by repeat (first | exact Drawn0.refl _ | apply Drawn0.step)⟩
                · rw [if_neg c8] at H
                  have c8b0 : (!(((rd_T26 l0 x13_1).f0) == ((rd_T26 l1 x13_1).f0)) || ((!(((rd_T26 l0 x13_1).f1.f0) == ((rd_T26 l1 x13_1).f1.f0)) || (!(((rd_T26 l0 x13_1).f1.f1) == ((rd_T26 l1 x13_1).f1.f1)))) || (!(((rd_T26 l0 x13_1).f2) == ((rd_T26 l1 x13_1).f2)) || ((!(((rd_T26 l0 x13_1).f3.f0) == ((rd_T26 l1 x13_1).f3.f0)) || (!(((rd_T26 l0 x13_1).f3.f1) == ((rd_T26 l1 x13_1).f3.f1)) || (!(((rd_T26 l0 x13_1).f3.f2) == ((rd_T26 l1 x13_1).f3.f2))))))))) = false := by simpa using c8
                  clear c8
                  have H' := Aside0.mk H
                  clear H
                  have p161 : 0 ≤ (x13_1 : Int) := of_decide_eq_true (by first | (with_reducible assumption) | assumption)
                  have q161 : x13_1 < (l0.length : Int) := of_decide_eq_true (by first | (with_reducible assumption) | assumption)
                  obtain ⟨ad161, e161, hx161_0, hx161_1, hx161_2, hx161_3, hx161_4, hx161_5, hx161_6⟩ := at_T26 HR0.out x13_1 p161 q161
                  cases e161
                  replace p161 := eq_true p161
                  replace q161 := eq_true q161
                  have p162 : 0 ≤ (x13_1 : Int) := of_decide_eq_true (by first | (with_reducible assumption) | assumption)
                  have q162 : x13_1 < (l1.length : Int) := of_decide_eq_true (by first | (with_reducible assumption) | assumption)
                  obtain ⟨ad162, e162, hx162_0, hx162_1, hx162_2, hx162_3, hx162_4, hx162_5, hx162_6⟩ := at_T26 HR1.out x13_1 p162 q162
                  cases e162
                  replace p162 := eq_true p162
                  replace q162 := eq_true q162
                  go_wp2
                  repeat (go_quiet (fail); try go_wp2)
                  go_roundg k1
                  case measure => have := HK1.out; omega
                  case rel => exact ⟨(wrap64 (x13_1 + 1)), (by first | rfl | (simp; done) | (simp [*]; done)), H', ⟨by have := HK1.out; omega⟩, by repeat (first | exact Drawn0.refl _ | apply Drawn0.step)⟩
              · rw [if_neg c7] at H
                exact absurd H (by simp)
            · rw [if_neg c6] at H
              exact absurd H (by simp)
          · rw [if_neg c5] at H
            exact absurd H (by simp)
        · rw [if_neg c4] at H
          have c4b0 : decide (x13_1 < (l0.length : Int)) = false := decide_eq_false c4
          clear c4
          obtain rfl := Option.some.inj H
          go_wp2
          repeat (go_quiet (fail); try go_wp2)
          go_ret
          exact ⟨by first | rfl | (simp; done) | (simp [*]; done), by repeat (first | exact Drawn0.refl _ | apply Drawn0.step)⟩
  · rw [if_neg c3] at H
    have c3b0 : ((l0.length : Int) == (l1.length : Int)) = false := beq_eq_false_iff_ne.mpr c3
    have c3b1 : ((l0.length : Int) != (l1.length : Int)) = true := bne_iff_ne.mpr c3
    have c3b2 : (l0.length == l1.length) = false := by first | simpa using c3 | (simp at c3 ⊢; omega)
    obtain rfl := Option.some.inj H
    go_enter Try.func97, Try.ntmps97
    go_wp2
    repeat (go_quiet (fail); try go_wp2)
    go_ret
    exact ⟨by first | rfl | (simp; done) | (simp [*]; done), by repeat (first | exact Drawn0.refl _ | apply Drawn0.step)⟩

/-! ### line_Same: function 38 -/
def line_Same.f (k : Nat) (l0 : List (S26)) (l1 : List (S26)) : Option (Bool) := (cell_Cell_97.f k l0 l1).bind fun t163 => (some t163)
set_option maxHeartbeats 8000000 in
set_option maxRecDepth 100000 in
theorem line_Same.calls (k : Nat) (A0 : Option Addr) (c0 : Nat) (l0 : List (S26)) (A1 : Option Addr) (c1 : Nat) (l1 : List (S26)) (r : Bool) (w : World) (hr0 : Kd.C k26 w A0 l0.length l0) (hc0 : l0.length ≤ c0) (hr1 : Kd.C k26 w A1 l1.length l1) (hc1 : l1.length ≤ c1) (h : line_Same.f k l0 l1 = some r) :
    Calls Try.prog 38 #[.slice A0 l0.length c0, .slice A1 l1.length c1] w fun e w' => e = .returned (.bool r) ∧ Drawn0 w w' := by
  have HR0 := Aside0.mk hr0
  have HC0 := Aside0.mk hc0
  clear hr0 hc0
  have HR1 := Aside0.mk hr1
  have HC1 := Aside0.mk hc1
  clear hr1 hc1
  have H : ((cell_Cell_97.f k l0 l1).bind fun t163 => (some t163)) = some r := h
  clear h
  replace H := Option.bind_eq_some_iff.mp H
  obtain ⟨t163, A30, H⟩ := H
  replace H : (some t163) = some r := H
  have A3 := Aside0.mk A30
  clear A30
  obtain rfl := Option.some.inj H
  go_enter Try.func38, Try.ntmps38
  go_wp2_with (first | ((with_reducible refine gate_callee (f := 97) rfl ?_); refine goesL_ (some 7) rfl rfl Try.func97 (by kernel_rfl) rfl #[.slice A0 l0.length c0, .slice A1 l1.length c1] rfl (by (try simp only [List.map_toArray, List.map_cons, List.map_nil]); first | done | rfl | (simp only [List.length_drop, List.length_take]; rfl)) ?_; (with_reducible refine (cell_Cell_97.calls k _ _ l0 _ _ l1 t163 _ ?side1 ?side2 ?side3 ?side4 A3.out).mono ?_); (case side1 => repeat (first | exact HR0.out | (with_reducible refine Kd.C_alloc ?_ _) | (with_reducible refine Kd.C_drewN ?_ _) | (with_reducible refine Kd.C_drew ?_))); (case side2 => exact HC0.out); (case side3 => repeat (first | exact HR1.out | (with_reducible refine Kd.C_alloc ?_ _) | (with_reducible refine Kd.C_drewN ?_ _) | (with_reducible refine Kd.C_drew ?_))); (case side4 => exact HC1.out); rintro e w' ⟨rfl, ⟨nd, rfl⟩⟩; refine ⟨_, rfl, ?_⟩))
  go_ret
  exact ⟨by first | rfl | (simp; done) | (simp [*]; done), by repeat (first | exact Drawn0.refl _ | apply Drawn0.step)⟩

/-! ### line_length: function 98 -/
def line_length.f (a0 : Int) : Option (Int) := some (mn (mx a0 0) 512)
set_option maxHeartbeats 8000000 in
set_option maxRecDepth 100000 in
theorem line_length.calls (a0 : Int) (r : Int) (w : World) (h : line_length.f a0 = some r) :
    Calls Try.prog 98 #[.int .i64 a0] w fun e w' => e = .returned (.int .i64 r) ∧ Below w.heap.size w w' := by
  have HB := Aside0.mk (Below.refl w.heap.size w)
  have H : (some (mn (mx a0 0) 512)) = some r := h
  clear h
  obtain ⟨ji2, hji2⟩ : ∃ j_ : Int, (mx a0 0) = j_ := ⟨_, rfl⟩
  replace H : (some (mn (ji2) 512)) = some r := by first | (rw [hji2] at H; exact H) | (simp only [hji2] at H ⊢; exact H)
  (try (have hji2l : 0 ≤ ji2 := by (rw [← hji2]; unfold mx; (repeat' split) <;> omega)))
  (try (have hji2m : 0 ≤ ji2 := by omega))
  have hji2_ : (if a0 < 0 then 0 else a0) = ji2 := hji2
  obtain ⟨ji3, hji3⟩ : ∃ j_ : Int, (mn (ji2) 512) = j_ := ⟨_, rfl⟩
  replace H : (some ji3) = some r := by first | (rw [hji3] at H; exact H) | (simp only [hji3] at H ⊢; exact H)
  have hji3_ : (if 512 < (ji2) then 512 else (ji2)) = ji3 := hji3
  obtain rfl := Option.some.inj H
  go_enter Try.func98, Try.ntmps98
  go_wp2
  go_ret
  exact ⟨by first | rfl | (simp <;> rfl) | (simp only [← hji2, ← hji3]; first | rfl | (simp <;> rfl)) | (simp [*] <;> rfl), by repeat (first | (with_reducible first | exact HB.out | apply below_alloc | apply pw_below_drewN | apply below_drew1) | exact HB.out)⟩

/-! ### line_blanks: function 99 -/
def line_blanks.l0 : Nat → List (S26) → Int → Int → Int → Int → Int → Option ((List (S26)))
  | 0, _, _, _, _, _, _ => none
  | k + 1, x5, x6, x7, x165000, x165001, x165002 => if x7 < x6 then ((cell_Blank.f x165000 x165001 x165002).bind fun bt165 => (if x5.length < 8796093022208 then (line_blanks.l0 k (x5 ++ [(⟨bt165.1, (⟨bt165.2.1, bt165.2.2.1⟩ : S22), bt165.2.2.2.1, (⟨bt165.2.2.2.2.1, bt165.2.2.2.2.2.1, bt165.2.2.2.2.2.2⟩ : S24)⟩ : S26)]) x6 (wrap64 (x7 + 1)) x165000 x165001 x165002) else (none))) else (some x5)
def line_blanks.f (k : Nat) (a0 : Int) (a1_0 : Int) (a1_1 : Int) (a1_2 : Int) : Option ((List (S26))) := line_blanks.l0 k ([] : List (S26)) a0 0 a1_0 a1_1 a1_2
set_option maxHeartbeats 8000000 in
set_option maxRecDepth 100000 in
theorem line_blanks.calls (k : Nat) (a0 : Int) (a1_0 : Int) (a1_1 : Int) (a1_2 : Int) (r : List (S26)) (w : World) (h : line_blanks.f k a0 a1_0 a1_1 a1_2 = some r) :
    Calls Try.prog 99 #[.int .i64 a0, .agg #[.int .u8 a1_0, .int .u8 a1_1, .int .u8 a1_2]] w fun e w' => ∃ v0_ : Value, e = .returned (v0_) ∧ Kd.R k26 26 w' w.heap.size (fun _ => True) v0_ r ∧ Below w.heap.size w w' := by
  have hu24 := Try.underlying24
  have HB := Aside0.mk (Below.refl w.heap.size w)
  have H : (line_blanks.l0 k ([] : List (S26)) a0 0 a1_0 a1_1 a1_2) = some r := h
  clear h
  have H' := Aside0.mk H
  clear H
  go_enter Try.func99, Try.ntmps99
  go_wp2_with (first | ((with_reducible refine gate_dst (N := 3) rfl ?_); refine box_event ?hg (N := 3) ?hd (cs := #[.int .u8 a1_0, .int .u8 a1_1, .int .u8 a1_2]) (t := 24) ?hr ?_; (case hd => rfl); (case hg => rfl); (case hr => first | (go_simp; done) | (go_simp; rfl)); intro gb164 hg w3 hbox hb; have n0_ := Aside0.mk (below_step (by repeat (first | (with_reducible first | exact HB.out | apply below_alloc | apply pw_below_drewN | apply below_drew1) | exact HB.out)) hb); have n1_ := Aside0.mk (hbox); have n2_ := Aside0.mk ((by rw [hg]; exact (below_size (by repeat (first | (with_reducible first | exact HB.out | apply below_alloc | apply pw_below_drewN | apply below_drew1) | exact HB.out))) : w.heap.size ≤ gb164)); have n3_ := Aside0.mk ((by rw [hg]; exact (below_size (by repeat (first | (with_reducible first | exact HB.out | apply below_alloc | apply pw_below_drewN | apply below_drew1) | exact HB.out))) : w.heap.size ≤ gb164)); clear HB; have HB := n0_; have BK164 := n1_; have GW164 := n2_; have GE164 := n3_; clear n0_ n1_ n2_ n3_; clear hb hbox hg))
  go_loopg [5, 7] k (fun kq v5 v7 w' => ∃ (x5_1 : List (S26)) (x7_1 : Int), v7 = .int .i64 x7_1 ∧ Aside0 (line_blanks.l0 kq x5_1 a0 x7_1 a1_0 a1_1 a1_2 = some r) ∧ Aside0 (kq ≤ k) ∧ Aside0 (Kd.R k26 26 w' w.heap.size (fun _ => True) v5 x5_1) ∧ Aside0 (w'.heap[gb164]? = some (.cells #[.int .u8 a1_0, .int .u8 a1_1, .int .u8 a1_2] 24 (0, 0))) ∧ Aside0 (Below w.heap.size w w'))
  case atStart => exact ⟨(([] : List (S26))), (0), (by first | rfl | (simp; done) | (simp [*]; done)), H', ⟨Nat.le_refl _⟩, ⟨by first | exact Kd.R_nil _ _ _ _ _ | exact Kd.N_nil _ _ _ _ _ | exact Kd.V_nil _ _ _ _ _ | exact Kd.Q_nil _ _ _ _ _ | exact Kd.S_nil _ _ _ _ _⟩, ⟨by (with_reducible repeat (first | refine blk_drewN ?_ _ | refine blk_drew ?_ | refine blk_alloc ?_ _)); exact BK164.out⟩, ⟨by repeat (first | (with_reducible first | exact HB.out | apply below_alloc | apply pw_below_drewN | apply below_drew1 | refine below_set ?_ GE164.out) | exact HB.out)⟩⟩
  case round =>
    clear H'
    try clear p2
    obtain ⟨x5_1, x7_1, rfl, HA, HK1, HO_5, BK164, HB⟩ := hrel
    cases gk with
    | zero => exact absurd HA.out (by simp [line_blanks.l0])
    | succ k1 =>
      have H := HA.out
      clear HA
      simp only [line_blanks.l0] at H
      by_cases c4 : x7_1 < a0
      · rw [if_pos c4] at H
        have c4b0 : decide (x7_1 < a0) = true := decide_eq_true c4
        clear c4
        replace H := Option.bind_eq_some_iff.mp H
        obtain ⟨⟨t165, t166, t167, t168, t169, t170, t171⟩, A50, H⟩ := H
        replace H : (if x5_1.length < 8796093022208 then (line_blanks.l0 k1 (x5_1 ++ [(⟨t165, (⟨t166, t167⟩ : S22), t168, (⟨t169, t170, t171⟩ : S24)⟩ : S26)]) a0 (wrap64 (x7_1 + 1)) a1_0 a1_1 a1_2) else (none)) = some r := H
        have A5 := Aside0.mk A50
        clear A50
        by_cases c6 : x5_1.length < 8796093022208
        · rw [if_pos c6] at H
          have LMc6 := Aside0.mk c6
          clear c6
          obtain ⟨y172, hy172⟩ : ∃ y_ : List (S26), y_ = (x5_1 ++ [(⟨t165, (⟨t166, t167⟩ : S22), t168, (⟨t169, t170, t171⟩ : S24)⟩ : S26)]) := ⟨_, rfl⟩
          replace H : (line_blanks.l0 k1 y172 a0 (wrap64 (x7_1 + 1)) a1_0 a1_1 a1_2) = some r := by first | (rw [hy172]; with_reducible exact H) | (have H2_ := (Option.bind_some _ _).symm.trans H; rw [hy172]; with_reducible exact H2_) | (have H2_ := (Option.bind_some _ _).symm.trans H; with_reducible exact H2_) | with_reducible exact H | (rw [hy172]; exact H) | exact H
          have Ny172 := Aside0.mk hy172
          clear hy172
          have H' := Aside0.mk H
          clear H
          have hcz7_0 : wr.cell? ⟨gb164, 0, none⟩ = some (.int .u8 a1_0) := (blk_cell BK164.out 0).trans rfl
          have hcz7_1 : wr.cell? ⟨gb164, 1, none⟩ = some (.int .u8 a1_1) := (blk_cell BK164.out 1).trans rfl
          have hcz7_2 : wr.cell? ⟨gb164, 2, none⟩ = some (.int .u8 a1_2) := (blk_cell BK164.out 2).trans rfl
          have hfz7_0 := blk_frozen BK164.out 0
          have hfz7_1 := blk_frozen BK164.out 1
          have hfz7_2 := blk_frozen BK164.out 2
          go_wp2_with (first | ((with_reducible refine gate_callee (f := 21) rfl ?_); refine goesL_ (some 11) rfl rfl Try.func21 (by kernel_rfl) rfl #[.agg #[.int .u8 a1_0, .int .u8 a1_1, .int .u8 a1_2]] rfl (by (try simp only [List.map_toArray, List.map_cons, List.map_nil]); first | done | rfl | (simp only [List.length_drop, List.length_take]; rfl)) ?_; (with_reducible refine (cell_Blank.calls a1_0 a1_1 a1_2 t165 t166 t167 t168 t169 t170 t171 _ A5.out).mono ?_); rintro e w8 ⟨rfl, hb⟩; refine ⟨_, rfl, ?_⟩; have n0_ := Aside0.mk (Kd.R_below (by (with_reducible repeat (first | apply Kd.R_alloc | apply Kd.R_drewN | apply Kd.R_drew)); exact HO_5.out) hb); have n1_ := Aside0.mk (blk_below (g := gb164) (o := .cells #[.int .u8 a1_0, .int .u8 a1_1, .int .u8 a1_2] 24 (0, 0)) (by (with_reducible repeat (first | refine blk_drewN ?_ _ | refine blk_drew ?_ | refine blk_alloc ?_ _)); exact BK164.out) hb); have n2_ := Aside0.mk (below_step (by repeat (first | (with_reducible first | exact HB.out | apply below_alloc | apply pw_below_drewN | apply below_drew1 | refine below_set ?_ GE164.out) | exact HB.out)) hb); clear HO_5; clear BK164; clear HB; have HO_5 := n0_; have BK164 := n1_; have HB := n2_; clear n0_ n1_ n2_; (try clear hb); (try clear hb2); (try clear hk); (try clear hi)) | ((with_reducible refine gate_builtin (b := .append) (xs := #[.tmp 9, .tmp 12]) rfl ?_); at_builtin; refine Kd.R_append k26 (w0 := w) w.heap.size rfl (.tmp 9) (.tmp 12) 58 26 (.agg #[(.int .i32 0), (.int .i32 0), (.int .i32 0), (.int .u8 0), (.int .u8 0), (.int .u8 0), (.int .u8 0)]) 16 rfl Try.underlying58 info26 rfl (by decide) (by omega) u5 x5_1 (⟨t165, (⟨t166, t167⟩ : S22), t168, (⟨t169, t170, t171⟩ : S24)⟩ : S26) [.int .i32 t165, .int .i32 t166, .int .i32 t167, .int .u8 t168, .int .u8 t169, .int .u8 t170, .int .u8 t171] (fun _ => True) (fun _ => False) rfl rfl ?aP (fun _ hk => hk.elim) ?aF ?aO ?aB ?aS ?aL ?_; (case aP => exact k26_mkM _ _ _ (⟨t165, (⟨t166, t167⟩ : S22), t168, (⟨t169, t170, t171⟩ : S24)⟩ : S26)); (case aB => exact (by repeat (first | (with_reducible first | exact HB.out | apply below_alloc | apply pw_below_drewN | apply below_drew1 | refine below_set ?_ GE164.out) | exact HB.out))); (case aF => exact (fun _ _ => trivial)); (case aO => exact (by (with_reducible repeat (first | apply Kd.R_alloc | apply Kd.R_drewN | apply Kd.R_drew)); exact HO_5.out)); (case aS => exact (below_size (by repeat (first | (with_reducible first | exact HB.out | apply below_alloc | apply pw_below_drewN | apply below_drew1 | refine below_set ?_ GE164.out) | exact HB.out)))); (case aL => have := LMc6.out; omega); intro v173 w9 ho hb hg hat; rw [← Ny172.out] at ho; have n0_ := Aside0.mk (blk_grown (g := gb164) (o := .cells #[.int .u8 a1_0, .int .u8 a1_1, .int .u8 a1_2] 24 (0, 0)) (by (with_reducible repeat (first | refine blk_drewN ?_ _ | refine blk_drew ?_ | refine blk_alloc ?_ _)); exact BK164.out) hg (Kd.R_ne HO_5.out BK164.out (by decide))); have n1_ := Aside0.mk (hb); have n2_ := Aside0.mk (ho); clear BK164; clear HB; clear HO_5; have BK164 := n0_; have HB := n1_; have HO174 := n2_; clear n0_ n1_ n2_; clear ho hb hg hat))
          go_roundg k1
          case measure => have := HK1.out; omega
          case rel => exact ⟨(y172), (wrap64 (x7_1 + 1)), (by first | rfl | (simp; done) | (simp [*]; done)), H', ⟨by have := HK1.out; omega⟩, ⟨by (with_reducible repeat (first | apply Kd.R_alloc | apply Kd.R_drewN | apply Kd.R_drew)); exact HO174.out⟩, ⟨by (with_reducible repeat (first | refine blk_drewN ?_ _ | refine blk_drew ?_ | refine blk_alloc ?_ _)); exact BK164.out⟩, ⟨by repeat (first | (with_reducible first | exact HB.out | apply below_alloc | apply pw_below_drewN | apply below_drew1 | refine below_set ?_ GE164.out) | exact HB.out)⟩⟩
        · rw [if_neg c6] at H
          exact absurd H (by simp)
      · rw [if_neg c4] at H
        have c4b0 : decide (x7_1 < a0) = false := decide_eq_false c4
        clear c4
        obtain rfl := Option.some.inj H
        go_wp2
        go_ret
        exact ⟨_, by first | rfl | (simp <;> rfl) | (simp [*] <;> rfl), by (with_reducible repeat (first | apply Kd.R_alloc | apply Kd.R_drewN | apply Kd.R_drew)); exact HO_5.out, by repeat (first | (with_reducible first | exact HB.out | apply below_alloc | apply pw_below_drewN | apply below_drew1 | refine below_set ?_ GE164.out) | exact HB.out)⟩

/-! ### line_Fit: function 39 -/
def line_Fit.f (k : Nat) (l0 : List (S26)) (a1 : Int) : Option ((List (S26))) := (line_length.f a1).bind fun t175 => (if t175 ≤ (l0.length : Int) then (if 0 ≤ t175 then ((line_Mend.f (l0.take (t175 : Int).toNat)).bind fun t180 => (some t180)) else (none)) else ((cell_Cell_95.f l0).bind fun t183 => ((line_blanks.f k (wrap64 (t175 - (l0.length : Int))) 0 0 0).bind fun t186 => (if t183.length + t186.length < 8796093022208 then ((line_Mend.f (t183 ++ t186)).bind fun t192 => (some t192)) else (none)))))
set_option maxHeartbeats 8000000 in
set_option maxRecDepth 100000 in
theorem line_Fit.calls (k : Nat) (A0 : Option Addr) (c0 : Nat) (l0 : List (S26)) (a1 : Int) (r : List (S26)) (w : World) (hr0 : Kd.C k26 w A0 l0.length l0) (hc0 : l0.length ≤ c0) (h : line_Fit.f k l0 a1 = some r) :
    Calls Try.prog 39 #[.slice A0 l0.length c0, .int .i64 a1] w fun e w' => ∃ v0_ : Value, e = .returned (v0_) ∧ Kd.R k26 26 w' w.heap.size (fun _ => True) v0_ r ∧ Below w.heap.size w w' := by
  have hu24 := Try.underlying24
  have HR0 := Aside0.mk hr0
  have HC0 := Aside0.mk hc0
  clear hr0 hc0
  have HB := Aside0.mk (Below.refl w.heap.size w)
  have H : ((line_length.f a1).bind fun t175 => (if t175 ≤ (l0.length : Int) then (if 0 ≤ t175 then ((line_Mend.f (l0.take (t175 : Int).toNat)).bind fun t180 => (some t180)) else (none)) else ((cell_Cell_95.f l0).bind fun t183 => ((line_blanks.f k (wrap64 (t175 - (l0.length : Int))) 0 0 0).bind fun t186 => (if t183.length + t186.length < 8796093022208 then ((line_Mend.f (t183 ++ t186)).bind fun t192 => (some t192)) else (none)))))) = some r := h
  clear h
  replace H := Option.bind_eq_some_iff.mp H
  obtain ⟨t175, A30, H⟩ := H
  replace H : (if t175 ≤ (l0.length : Int) then (if 0 ≤ t175 then ((line_Mend.f (l0.take (t175 : Int).toNat)).bind fun t180 => (some t180)) else (none)) else ((cell_Cell_95.f l0).bind fun t183 => ((line_blanks.f k (wrap64 (t175 - (l0.length : Int))) 0 0 0).bind fun t186 => (if t183.length + t186.length < 8796093022208 then ((line_Mend.f (t183 ++ t186)).bind fun t192 => (some t192)) else (none))))) = some r := H
  have A3 := Aside0.mk A30
  clear A30
  by_cases c4 : t175 ≤ (l0.length : Int)
  · rw [if_pos c4] at H
    have c4b0 : decide (t175 ≤ (l0.length : Int)) = true := decide_eq_true c4
    clear c4
    by_cases c5 : 0 ≤ t175
    · rw [if_pos c5] at H
      have c5b0 := eq_true c5
      have c5b1 : decide (0 ≤ t175) = true := decide_eq_true c5
      clear c5
      have c6b0 := eq_true (of_decide_eq_true (by first | (with_reducible assumption) | assumption) : t175 ≤ (l0.length : Int))
      obtain ⟨y176, hy176⟩ : ∃ y_ : List (S26), y_ = (l0.take (t175 : Int).toNat) := ⟨_, rfl⟩
      replace H : ((line_Mend.f y176).bind fun t180 => (some t180)) = some r := by first | (rw [hy176]; with_reducible exact H) | (have H2_ := (Option.bind_some _ _).symm.trans H; rw [hy176]; with_reducible exact H2_) | (have H2_ := (Option.bind_some _ _).symm.trans H; with_reducible exact H2_) | with_reducible exact H | (rw [hy176]; exact H) | exact H
      have Ny176 := Aside0.mk hy176
      clear hy176
      replace H := Option.bind_eq_some_iff.mp H
      obtain ⟨t180, A70, H⟩ := H
      replace H : (some t180) = some r := H
      have A7 := Aside0.mk A70
      clear A70
      obtain rfl := Option.some.inj H
      go_enter Try.func39, Try.ntmps39
      go_wp2_with (first | ((with_reducible refine gate_callee (f := 98) rfl ?_); refine goesL_ (some 6) rfl rfl Try.func98 (by kernel_rfl) rfl #[.int .i64 a1] rfl (by (try simp only [List.map_toArray, List.map_cons, List.map_nil]); first | done | rfl | (simp only [List.length_drop, List.length_take]; rfl)) ?_; (with_reducible refine (line_length.calls a1 t175 _ A3.out).mono ?_); rintro e w8 ⟨rfl, hb⟩; refine ⟨_, rfl, ?_⟩; have n0_ := Aside0.mk (below_step (by repeat (first | (with_reducible first | exact HB.out | apply below_alloc | apply pw_below_drewN | apply below_drew1) | exact HB.out)) hb); clear HB; have HB := n0_; clear n0_; (try clear hb); (try clear hb2); (try clear hk); (try clear hi); have q9 : (t175 : Int) ≤ ((l0.length : Int) : Int) := of_decide_eq_true (by first | (with_reducible assumption) | assumption); obtain ⟨i09, hi09, _, hsz9, _⟩ := info_parts info26; have hroom9 : l0.length ≤ c0 := HC0.out; have hC9 : Kd.C k26 _ A0 l0.length l0 := HR0.out; have hcut9 := cut_to (P := Try.prog) 58 26 .i64 Try.underlying58 hi09 A0 l0.length c0 t175 (of_decide_eq_true (by first | (with_reducible assumption) | assumption)) q9 hroom9; have hr9 := Kd.C_take (m := (t175 : Int).toNat) hC9 (by omega); have hy9 : y176.length = (t175 : Int).toNat := (by rw [Ny176.out, List.length_take]; omega); rw [← Ny176.out] at hr9; rw [← hy9] at hcut9; have HR179 := Aside0.mk hr9; have HC179 := Aside0.mk (show y176.length ≤ c0 from by omega); clear hr9 hC9 hroom9 hi09 hsz9; have KY9 := Aside0.mk hy9; clear hy9; replace q9 := eq_true q9) | ((with_reducible refine gate_callee (f := 49) rfl ?_); refine goesL_ (some 14) rfl rfl Try.func49 (by kernel_rfl) rfl #[.slice A0 y176.length c0] rfl (by (try simp only [List.map_toArray, List.map_cons, List.map_nil]); first | done | rfl | (simp only [List.length_drop, List.length_take]; rfl)) ?_; (with_reducible refine (line_Mend.calls _ _ y176 t180 _ ?side1 ?side2 A7.out).mono ?_); (case side1 => repeat (first | exact (Kd.C_below HR179.out HB.out) | (with_reducible refine Kd.C_alloc ?_ _) | (with_reducible refine Kd.C_drewN ?_ _) | (with_reducible refine Kd.C_drew ?_))); (case side2 => exact HC179.out); rintro e w10 ⟨v181, rfl, ho0, hb⟩; refine ⟨_, rfl, ?_⟩; have n0_ := Aside0.mk (Kd.R_lower ho0 (below_size (by repeat (first | (with_reducible first | exact HB.out | apply below_alloc | apply pw_below_drewN | apply below_drew1) | exact HB.out)))); have n1_ := Aside0.mk (below_step (by repeat (first | (with_reducible first | exact HB.out | apply below_alloc | apply pw_below_drewN | apply below_drew1) | exact HB.out)) hb); clear HB; have HO182 := n0_; have HB := n1_; clear n0_ n1_; (try clear hb); (try clear hb2); (try clear hk); (try clear hi); (try clear ho0)))
      go_ret
      exact ⟨_, by first | rfl | (simp <;> rfl) | (simp [*] <;> rfl), by (with_reducible repeat (first | apply Kd.R_alloc | apply Kd.R_drewN | apply Kd.R_drew)); exact HO182.out, by repeat (first | (with_reducible first | exact HB.out | apply below_alloc | apply pw_below_drewN | apply below_drew1) | exact HB.out)⟩
    · rw [if_neg c5] at H
      exact absurd H (by simp)
  · rw [if_neg c4] at H
    have c4b0 : decide (t175 ≤ (l0.length : Int)) = false := decide_eq_false c4
    clear c4
    replace H := Option.bind_eq_some_iff.mp H
    obtain ⟨t183, A110, H⟩ := H
    replace H : ((line_blanks.f k (wrap64 (t175 - (l0.length : Int))) 0 0 0).bind fun t186 => (if t183.length + t186.length < 8796093022208 then ((line_Mend.f (t183 ++ t186)).bind fun t192 => (some t192)) else (none))) = some r := H
    have A11 := Aside0.mk A110
    clear A110
    replace H := Option.bind_eq_some_iff.mp H
    obtain ⟨t186, A120, H⟩ := H
    replace H : (if t183.length + t186.length < 8796093022208 then ((line_Mend.f (t183 ++ t186)).bind fun t192 => (some t192)) else (none)) = some r := H
    have A12 := Aside0.mk A120
    clear A120
    by_cases c13 : t183.length + t186.length < 8796093022208
    · rw [if_pos c13] at H
      have LMc13 := Aside0.mk c13
      clear c13
      obtain ⟨y189, hy189⟩ : ∃ y_ : List (S26), y_ = (t183 ++ t186) := ⟨_, rfl⟩
      replace H : ((line_Mend.f y189).bind fun t192 => (some t192)) = some r := by first | (rw [hy189]; with_reducible exact H) | (have H2_ := (Option.bind_some _ _).symm.trans H; rw [hy189]; with_reducible exact H2_) | (have H2_ := (Option.bind_some _ _).symm.trans H; with_reducible exact H2_) | with_reducible exact H | (rw [hy189]; exact H) | exact H
      have Ny189 := Aside0.mk hy189
      clear hy189
      replace H := Option.bind_eq_some_iff.mp H
      obtain ⟨t192, A140, H⟩ := H
      replace H : (some t192) = some r := H
      have A14 := Aside0.mk A140
      clear A140
      obtain rfl := Option.some.inj H
      go_enter Try.func39, Try.ntmps39
      go_wp2_with (first | ((with_reducible refine gate_callee (f := 98) rfl ?_); refine goesL_ (some 6) rfl rfl Try.func98 (by kernel_rfl) rfl #[.int .i64 a1] rfl (by (try simp only [List.map_toArray, List.map_cons, List.map_nil]); first | done | rfl | (simp only [List.length_drop, List.length_take]; rfl)) ?_; (with_reducible refine (line_length.calls a1 t175 _ A3.out).mono ?_); rintro e w15 ⟨rfl, hb⟩; refine ⟨_, rfl, ?_⟩; have n0_ := Aside0.mk (below_step (by repeat (first | (with_reducible first | exact HB.out | apply below_alloc | apply pw_below_drewN | apply below_drew1) | exact HB.out)) hb); clear HB; have HB := n0_; clear n0_; (try clear hb); (try clear hb2); (try clear hk); (try clear hi)) | ((with_reducible refine gate_callee (f := 95) rfl ?_); refine goesL_ (some 16) rfl rfl Try.func95 (by kernel_rfl) rfl #[.slice A0 l0.length c0] rfl (by (try simp only [List.map_toArray, List.map_cons, List.map_nil]); first | done | rfl | (simp only [List.length_drop, List.length_take]; rfl)) ?_; (with_reducible refine (cell_Cell_95.calls _ _ l0 t183 _ ?side1 ?side2 A11.out).mono ?_); (case side1 => repeat (first | exact (Kd.C_below HR0.out HB.out) | (with_reducible refine Kd.C_alloc ?_ _) | (with_reducible refine Kd.C_drewN ?_ _) | (with_reducible refine Kd.C_drew ?_))); (case side2 => exact HC0.out); rintro e w16 ⟨v184, rfl, ho0, hb⟩; refine ⟨_, rfl, ?_⟩; have n0_ := Aside0.mk (Kd.R_lower ho0 (below_size (by repeat (first | (with_reducible first | exact HB.out | apply below_alloc | apply pw_below_drewN | apply below_drew1) | exact HB.out)))); have n1_ := Aside0.mk (below_step (by repeat (first | (with_reducible first | exact HB.out | apply below_alloc | apply pw_below_drewN | apply below_drew1) | exact HB.out)) hb); clear HB; have HO185 := n0_; have HB := n1_; clear n0_ n1_; (try clear hb); (try clear hb2); (try clear hk); (try clear hi); (try clear ho0)) | ((with_reducible refine gate_callee (f := 99) rfl ?_); refine goesL_ (some 22) rfl rfl Try.func99 (by kernel_rfl) rfl #[.int .i64 (wrap64 (t175 - (l0.length : Int))), .agg #[.int .u8 0, .int .u8 0, .int .u8 0]] rfl (by (try simp only [List.map_toArray, List.map_cons, List.map_nil]); first | done | rfl | (simp only [List.length_drop, List.length_take]; rfl)) ?_; (with_reducible refine (line_blanks.calls k (wrap64 (t175 - (l0.length : Int))) 0 0 0 t186 _ A12.out).mono ?_); rintro e w17 ⟨v187, rfl, ho0, hb⟩; refine ⟨_, rfl, ?_⟩; have n0_ := Aside0.mk (Kd.R_elder' (by (with_reducible repeat (first | apply Kd.R_alloc | apply Kd.R_drewN | apply Kd.R_drew)); exact HO185.out) (Kd.R_base ho0) hb); have n1_ := Aside0.mk (Kd.R_lower (Kd.R_new' ho0 (Kd.R_lt (by (with_reducible repeat (first | apply Kd.R_alloc | apply Kd.R_drewN | apply Kd.R_drew)); exact HO185.out))) (below_size (by repeat (first | (with_reducible first | exact HB.out | apply below_alloc | apply pw_below_drewN | apply below_drew1) | exact HB.out)))); have n2_ := Aside0.mk (below_step (by repeat (first | (with_reducible first | exact HB.out | apply below_alloc | apply pw_below_drewN | apply below_drew1) | exact HB.out)) hb); clear HO185; clear HB; have HO185 := n0_; have HO188 := n1_; have HB := n2_; clear n0_ n1_ n2_; (try clear hb); (try clear hb2); (try clear hk); (try clear hi); (try clear ho0); obtain ⟨Ao19, co19, eo19⟩ := Kd.R_slice HO188.out; subst eo19) | ((with_reducible refine gate_builtin (b := .append) (xs := #[.tmp 16, .tmp 22]) rfl ?_); at_builtin; refine Kd.R_append_rows k26 (w0 := w) w.heap.size rfl (.tmp 16) (.tmp 22) 58 26 (.agg #[(.int .i32 0), (.int .i32 0), (.int .i32 0), (.int .u8 0), (.int .u8 0), (.int .u8 0), (.int .u8 0)]) 16 rfl Try.underlying58 info26 rfl (by decide) (by omega) v184 t183 t186 _ _ _ (fun k_ => some k_ ≠ (.slice Ao19 t186.length co19 : Value).ownBlock) (fun _ => False) rfl rfl ?aO ?aR (fun _ _ h => h) (fun _ h => h.elim) ?aF ?aB ?aS ?aL ?_; (case aR => repeat (first | exact (Kd.R_reads' HO188.out).2.2 | (with_reducible refine Kd.C_alloc ?_ _) | (with_reducible refine Kd.C_drewN ?_ _) | (with_reducible refine Kd.C_drew ?_))); (case aB => exact (by repeat (first | (with_reducible first | exact HB.out | apply below_alloc | apply pw_below_drewN | apply below_drew1) | exact HB.out))); (case aF => exact (fun k_ hk => Kd.fresh' (Kd.R_lt (by (with_reducible repeat (first | apply Kd.R_alloc | apply Kd.R_drewN | apply Kd.R_drew)); exact HO188.out)) k_ hk)); (case aO => exact (by (with_reducible repeat (first | apply Kd.R_alloc | apply Kd.R_drewN | apply Kd.R_drew)); exact Kd.R_mono HO185.out (fun _ hk => hk.2))); (case aS => exact (below_size (by repeat (first | (with_reducible first | exact HB.out | apply below_alloc | apply pw_below_drewN | apply below_drew1) | exact HB.out)))); (case aL => have := LMc13.out; omega); intro v190 w18 ho hb hg hat; rw [← Ny189.out] at ho; have n0_ := Aside0.mk (Kd.R_after (ok := (fun _ => True)) (by (with_reducible repeat (first | apply Kd.R_alloc | apply Kd.R_drewN | apply Kd.R_drew)); exact HO188.out) hg hat); have n1_ := Aside0.mk (hb); have n2_ := Aside0.mk (ho); clear HO188; clear HB; clear HO185; have HO188 := n0_; have HB := n1_; have HO191 := n2_; clear n0_ n1_ n2_; clear ho hb hg hat; obtain ⟨Ao20, co20, eo20⟩ := Kd.R_slice HO191.out; subst eo20) | ((with_reducible refine gate_callee (f := 49) rfl ?_); refine goesL_ (some 24) rfl rfl Try.func49 (by kernel_rfl) rfl #[.slice Ao20 y189.length co20] rfl (by (try simp only [List.map_toArray, List.map_cons, List.map_nil]); first | done | rfl | (simp only [List.length_drop, List.length_take]; rfl)) ?_; (with_reducible refine (line_Mend.calls _ _ y189 t192 _ ?side1 ?side2 A14.out).mono ?_); (case side1 => repeat (first | exact (Kd.R_reads' HO191.out).2.2 | (with_reducible refine Kd.C_alloc ?_ _) | (with_reducible refine Kd.C_drewN ?_ _) | (with_reducible refine Kd.C_drew ?_))); (case side2 => exact (Kd.R_reads' HO191.out).2.1); rintro e w21 ⟨v193, rfl, ho0, hb⟩; refine ⟨_, rfl, ?_⟩; have n0_ := Aside0.mk (Kd.R_elder' (by (with_reducible repeat (first | apply Kd.R_alloc | apply Kd.R_drewN | apply Kd.R_drew)); exact HO188.out) (Kd.R_base ho0) hb); have n1_ := Aside0.mk (Kd.R_elder' (by (with_reducible repeat (first | apply Kd.R_alloc | apply Kd.R_drewN | apply Kd.R_drew)); exact HO191.out) (Kd.R_base ho0) hb); have n2_ := Aside0.mk (Kd.R_lower (Kd.R_new' (Kd.R_new' ho0 (Kd.R_lt (by (with_reducible repeat (first | apply Kd.R_alloc | apply Kd.R_drewN | apply Kd.R_drew)); exact HO188.out))) (Kd.R_lt (by (with_reducible repeat (first | apply Kd.R_alloc | apply Kd.R_drewN | apply Kd.R_drew)); exact HO191.out))) (below_size (by repeat (first | (with_reducible first | exact HB.out | apply below_alloc | apply pw_below_drewN | apply below_drew1) | exact HB.out)))); have n3_ := Aside0.mk (below_step (by repeat (first | (with_reducible first | exact HB.out | apply below_alloc | apply pw_below_drewN | apply below_drew1) | exact HB.out)) hb); clear HO188; clear HO191; clear HB; have HO188 := n0_; have HO191 := n1_; have HO194 := n2_; have HB := n3_; clear n0_ n1_ n2_ n3_; (try clear hb); (try clear hb2); (try clear hk); (try clear hi); (try clear ho0)))
      go_ret
      exact ⟨_, by first | rfl | (simp <;> rfl) | (simp [*] <;> rfl), by (with_reducible repeat (first | apply Kd.R_alloc | apply Kd.R_drewN | apply Kd.R_drew)); exact Kd.R_mono HO194.out (fun _ hk => trivial), by repeat (first | (with_reducible first | exact HB.out | apply below_alloc | apply pw_below_drewN | apply below_drew1) | exact HB.out)⟩
    · rw [if_neg c13] at H
      exact absurd H (by simp)

/-! ### line_Erase: function 40 -/
def line_Erase.f (k : Nat) (l0 : List (S26)) (a1 : Int) (a2 : Int) (a3_0 : Int) (a3_1 : Int) (a3_2 : Int) : Option ((List (S26))) := (line_blanks.f k (mx 0 (wrap64 ((mn (mx a2 0) (l0.length : Int)) - (mn (mx a1 0) (l0.length : Int))))) a3_0 a3_1 a3_2).bind fun t196 => ((line_laid.f l0 (mn (mx a1 0) (l0.length : Int)) t196).bind fun t199 => (some t199))
set_option maxHeartbeats 8000000 in
set_option maxRecDepth 100000 in
theorem line_Erase.calls (k : Nat) (A0 : Option Addr) (c0 : Nat) (l0 : List (S26)) (a1 : Int) (a2 : Int) (a3_0 : Int) (a3_1 : Int) (a3_2 : Int) (r : List (S26)) (w : World) (hr0 : Kd.C k26 w A0 l0.length l0) (hc0 : l0.length ≤ c0) (h : line_Erase.f k l0 a1 a2 a3_0 a3_1 a3_2 = some r) :
    Calls Try.prog 40 #[.slice A0 l0.length c0, .int .i64 a1, .int .i64 a2, .agg #[.int .u8 a3_0, .int .u8 a3_1, .int .u8 a3_2]] w fun e w' => ∃ v0_ : Value, e = .returned (v0_) ∧ Kd.R k26 26 w' w.heap.size (fun _ => True) v0_ r ∧ Below w.heap.size w w' := by
  have hu24 := Try.underlying24
  have HR0 := Aside0.mk hr0
  have HC0 := Aside0.mk hc0
  clear hr0 hc0
  have HB := Aside0.mk (Below.refl w.heap.size w)
  have H : ((line_blanks.f k (mx 0 (wrap64 ((mn (mx a2 0) (l0.length : Int)) - (mn (mx a1 0) (l0.length : Int))))) a3_0 a3_1 a3_2).bind fun t196 => ((line_laid.f l0 (mn (mx a1 0) (l0.length : Int)) t196).bind fun t199 => (some t199))) = some r := h
  clear h
  obtain ⟨ji5, hji5⟩ : ∃ j_ : Int, (mx a1 0) = j_ := ⟨_, rfl⟩
  replace H : ((line_blanks.f k (mx 0 (wrap64 ((mn (mx a2 0) (l0.length : Int)) - (mn (ji5) (l0.length : Int))))) a3_0 a3_1 a3_2).bind fun t196 => ((line_laid.f l0 (mn (ji5) (l0.length : Int)) t196).bind fun t199 => (some t199))) = some r := by first | (rw [hji5] at H; exact H) | (simp only [hji5] at H ⊢; exact H)
  (try (have hji5l : 0 ≤ ji5 := by (rw [← hji5]; unfold mx; (repeat' split) <;> omega)))
  (try (have hji5m : 0 ≤ ji5 := by omega))
  have hji5_ : (if a1 < 0 then 0 else a1) = ji5 := hji5
  obtain ⟨ji6, hji6⟩ : ∃ j_ : Int, (mn (ji5) (l0.length : Int)) = j_ := ⟨_, rfl⟩
  replace H : ((line_blanks.f k (mx 0 (wrap64 ((mn (mx a2 0) (l0.length : Int)) - (ji6)))) a3_0 a3_1 a3_2).bind fun t196 => ((line_laid.f l0 (ji6) t196).bind fun t199 => (some t199))) = some r := by first | (rw [hji6] at H; exact H) | (simp only [hji6] at H ⊢; exact H)
  have hji6_ : (if (l0.length : Int) < (ji5) then (l0.length : Int) else (ji5)) = ji6 := hji6
  obtain ⟨ji7, hji7⟩ : ∃ j_ : Int, (mx a2 0) = j_ := ⟨_, rfl⟩
  replace H : ((line_blanks.f k (mx 0 (wrap64 ((mn (ji7) (l0.length : Int)) - (ji6)))) a3_0 a3_1 a3_2).bind fun t196 => ((line_laid.f l0 (ji6) t196).bind fun t199 => (some t199))) = some r := by first | (rw [hji7] at H; exact H) | (simp only [hji7] at H ⊢; exact H)
  (try (have hji7l : 0 ≤ ji7 := by (rw [← hji7]; unfold mx; (repeat' split) <;> omega)))
  (try (have hji7m : 0 ≤ ji7 := by omega))
  have hji7_ : (if a2 < 0 then 0 else a2) = ji7 := hji7
  obtain ⟨ji8, hji8⟩ : ∃ j_ : Int, (mn (ji7) (l0.length : Int)) = j_ := ⟨_, rfl⟩
  replace H : ((line_blanks.f k (mx 0 (wrap64 ((ji8) - (ji6)))) a3_0 a3_1 a3_2).bind fun t196 => ((line_laid.f l0 (ji6) t196).bind fun t199 => (some t199))) = some r := by first | (rw [hji8] at H; exact H) | (simp only [hji8] at H ⊢; exact H)
  have hji8_ : (if (l0.length : Int) < (ji7) then (l0.length : Int) else (ji7)) = ji8 := hji8
  obtain ⟨ji9, hji9⟩ : ∃ j_ : Int, (mx 0 (wrap64 ((ji8) - (ji6)))) = j_ := ⟨_, rfl⟩
  replace H : ((line_blanks.f k (ji9) a3_0 a3_1 a3_2).bind fun t196 => ((line_laid.f l0 (ji6) t196).bind fun t199 => (some t199))) = some r := by first | (rw [hji9] at H; exact H) | (simp only [hji9] at H ⊢; exact H)
  have hji9_ : (if 0 < (wrap64 ((ji8) - (ji6))) then (wrap64 ((ji8) - (ji6))) else 0) = ji9 := hji9
  replace H := Option.bind_eq_some_iff.mp H
  obtain ⟨t196, A100, H⟩ := H
  replace H : ((line_laid.f l0 (ji6) t196).bind fun t199 => (some t199)) = some r := H
  have A10 := Aside0.mk A100
  clear A100
  replace H := Option.bind_eq_some_iff.mp H
  obtain ⟨t199, A110, H⟩ := H
  replace H : (some t199) = some r := H
  have A11 := Aside0.mk A110
  clear A110
  obtain rfl := Option.some.inj H
  go_enter Try.func40, Try.ntmps40
  go_wp2_with (first | ((with_reducible refine gate_dst (N := 7) rfl ?_); refine box_event ?hg (N := 7) ?hd (cs := #[.int .u8 a3_0, .int .u8 a3_1, .int .u8 a3_2]) (t := 24) ?hr ?_; (case hd => rfl); (case hg => rfl); (case hr => first | (go_simp; done) | (go_simp; rfl)); intro gb195 hg w12 hbox hb; have n0_ := Aside0.mk (below_step (by repeat (first | (with_reducible first | exact HB.out | apply below_alloc | apply pw_below_drewN | apply below_drew1) | exact HB.out)) hb); have n1_ := Aside0.mk (hbox); have n2_ := Aside0.mk ((by rw [hg]; exact (below_size (by repeat (first | (with_reducible first | exact HB.out | apply below_alloc | apply pw_below_drewN | apply below_drew1) | exact HB.out))) : w.heap.size ≤ gb195)); have n3_ := Aside0.mk ((by rw [hg]; exact (below_size (by repeat (first | (with_reducible first | exact HB.out | apply below_alloc | apply pw_below_drewN | apply below_drew1) | exact HB.out))) : w.heap.size ≤ gb195)); clear HB; have HB := n0_; have BK195 := n1_; have GW195 := n2_; have GE195 := n3_; clear n0_ n1_ n2_ n3_; clear hb hbox hg; have hcz13_0 : w12.cell? ⟨gb195, 0, none⟩ = some (.int .u8 a3_0) := (blk_cell BK195.out 0).trans rfl; have hcz13_1 : w12.cell? ⟨gb195, 1, none⟩ = some (.int .u8 a3_1) := (blk_cell BK195.out 1).trans rfl; have hcz13_2 : w12.cell? ⟨gb195, 2, none⟩ = some (.int .u8 a3_2) := (blk_cell BK195.out 2).trans rfl; have hfz13_0 := blk_frozen BK195.out 0; have hfz13_1 := blk_frozen BK195.out 1; have hfz13_2 := blk_frozen BK195.out 2) | ((with_reducible refine gate_callee (f := 99) rfl ?_); refine goesL_ (some 26) rfl rfl Try.func99 (by kernel_rfl) rfl #[.int .i64 ji9, .agg #[.int .u8 a3_0, .int .u8 a3_1, .int .u8 a3_2]] rfl (by (try simp only [List.map_toArray, List.map_cons, List.map_nil]); first | done | (simp only [hji9]; rfl) | rfl | (simp only [List.length_drop, List.length_take]; rfl)) ?_; (with_reducible refine (line_blanks.calls k ji9 a3_0 a3_1 a3_2 t196 _ A10.out).mono ?_); rintro e w14 ⟨v197, rfl, ho0, hb⟩; refine ⟨_, rfl, ?_⟩; have n0_ := Aside0.mk (Kd.R_lower ho0 (below_size (by repeat (first | (with_reducible first | exact HB.out | apply below_alloc | apply pw_below_drewN | apply below_drew1 | refine below_set ?_ GE195.out) | exact HB.out)))); have n1_ := Aside0.mk (blk_below (g := gb195) (o := .cells #[.int .u8 a3_0, .int .u8 a3_1, .int .u8 a3_2] 24 (0, 0)) (by (with_reducible repeat (first | refine blk_drewN ?_ _ | refine blk_drew ?_ | refine blk_alloc ?_ _)); exact BK195.out) hb); have n2_ := Aside0.mk (below_step (by repeat (first | (with_reducible first | exact HB.out | apply below_alloc | apply pw_below_drewN | apply below_drew1 | refine below_set ?_ GE195.out) | exact HB.out)) hb); clear BK195; clear HB; have HO198 := n0_; have BK195 := n1_; have HB := n2_; clear n0_ n1_ n2_; (try clear hb); (try clear hb2); (try clear hk); (try clear hi); (try clear ho0); obtain ⟨Ao15, co15, eo15⟩ := Kd.R_slice HO198.out; subst eo15) | ((with_reducible refine gate_callee (f := 96) rfl ?_); refine goesL_ (some 27) rfl rfl Try.func96 (by kernel_rfl) rfl #[.slice A0 l0.length c0, .int .i64 ji6, .slice Ao15 t196.length co15] rfl (by (try simp only [List.map_toArray, List.map_cons, List.map_nil]); first | done | (simp only [hji6]; rfl) | rfl | (simp only [List.length_drop, List.length_take]; rfl)) ?_; (with_reducible refine (line_laid.calls _ _ l0 ji6 _ _ t196 t199 _ ?side1 ?side2 ?side3 ?side4 A11.out).mono ?_); (case side1 => repeat (first | exact (Kd.C_below HR0.out HB.out) | (with_reducible refine Kd.C_alloc ?_ _) | (with_reducible refine Kd.C_drewN ?_ _) | (with_reducible refine Kd.C_drew ?_))); (case side2 => exact HC0.out); (case side3 => repeat (first | exact (Kd.R_reads' HO198.out).2.2 | (with_reducible refine Kd.C_alloc ?_ _) | (with_reducible refine Kd.C_drewN ?_ _) | (with_reducible refine Kd.C_drew ?_))); (case side4 => exact (Kd.R_reads' HO198.out).2.1); rintro e w16 ⟨v200, rfl, ho0, hb⟩; refine ⟨_, rfl, ?_⟩; have n0_ := Aside0.mk (Kd.R_elder' (by (with_reducible repeat (first | apply Kd.R_alloc | apply Kd.R_drewN | apply Kd.R_drew)); exact HO198.out) (Kd.R_base ho0) hb); have n1_ := Aside0.mk (Kd.R_lower (Kd.R_new' ho0 (Kd.R_lt (by (with_reducible repeat (first | apply Kd.R_alloc | apply Kd.R_drewN | apply Kd.R_drew)); exact HO198.out))) (below_size (by repeat (first | (with_reducible first | exact HB.out | apply below_alloc | apply pw_below_drewN | apply below_drew1 | refine below_set ?_ GE195.out) | exact HB.out)))); have n2_ := Aside0.mk (blk_below (g := gb195) (o := .cells #[.int .u8 a3_0, .int .u8 a3_1, .int .u8 a3_2] 24 (0, 0)) (by (with_reducible repeat (first | refine blk_drewN ?_ _ | refine blk_drew ?_ | refine blk_alloc ?_ _)); exact BK195.out) hb); have n3_ := Aside0.mk (below_step (by repeat (first | (with_reducible first | exact HB.out | apply below_alloc | apply pw_below_drewN | apply below_drew1 | refine below_set ?_ GE195.out) | exact HB.out)) hb); clear HO198; clear BK195; clear HB; have HO198 := n0_; have HO201 := n1_; have BK195 := n2_; have HB := n3_; clear n0_ n1_ n2_ n3_; (try clear hb); (try clear hb2); (try clear hk); (try clear hi); (try clear ho0)))
  go_ret
  exact ⟨_, by first | rfl | (simp <;> rfl) | (simp only [← hji5, ← hji6, ← hji7, ← hji8, ← hji9]; first | rfl | (simp <;> rfl)) | (simp [*] <;> rfl), by (with_reducible repeat (first | apply Kd.R_alloc | apply Kd.R_drewN | apply Kd.R_drew)); exact Kd.R_mono HO201.out (fun _ hk => trivial), by repeat (first | (with_reducible first | exact HB.out | apply below_alloc | apply pw_below_drewN | apply below_drew1 | refine below_set ?_ GE195.out) | exact HB.out)⟩

/-! ### cell_Of: function 14 -/
def cell_Of.f (a0 : Int) (a1_0 : Int) (a1_1 : Int) (a1_2 : Int) : Option (Int × Int × Int × Int × Int × Int × Int × Bool) := (width_Of.f a0).bind fun t204 => (if t204 < 1 then (some (0, 0, 0, 0, 0, 0, 0, false)) else (some (a0, 0, 0, (t204) % 256, a1_0, a1_1, a1_2, true)))
set_option maxHeartbeats 8000000 in
set_option maxRecDepth 100000 in
theorem cell_Of.calls (a0 : Int) (a1_0 : Int) (a1_1 : Int) (a1_2 : Int) (r1 : Int) (r2 : Int) (r3 : Int) (r4 : Int) (r5 : Int) (r6 : Int) (r7 : Int) (r8 : Bool) (w : World) (h : cell_Of.f a0 a1_0 a1_1 a1_2 = some (r1, r2, r3, r4, r5, r6, r7, r8)) :
    Calls Try.prog 14 #[.int .i32 a0, .agg #[.int .u8 a1_0, .int .u8 a1_1, .int .u8 a1_2]] w fun e w' => e = .returned (.tuple #[.agg #[.int .i32 r1, .int .i32 r2, .int .i32 r3, .int .u8 r4, .int .u8 r5, .int .u8 r6, .int .u8 r7], .bool r8]) ∧ Below w.heap.size w w' := by
  have hu24 := Try.underlying24
  have hu26 := Try.underlying26
  have HB := Aside0.mk (Below.refl w.heap.size w)
  have H : ((width_Of.f a0).bind fun t204 => (if t204 < 1 then (some (0, 0, 0, 0, 0, 0, 0, false)) else (some (a0, 0, 0, (t204) % 256, a1_0, a1_1, a1_2, true)))) = some (r1, r2, r3, r4, r5, r6, r7, r8) := h
  clear h
  replace H := Option.bind_eq_some_iff.mp H
  obtain ⟨t204, A30, H⟩ := H
  replace H : (if t204 < 1 then (some (0, 0, 0, 0, 0, 0, 0, false)) else (some (a0, 0, 0, (t204) % 256, a1_0, a1_1, a1_2, true))) = some (r1, r2, r3, r4, r5, r6, r7, r8) := H
  have A3 := Aside0.mk A30
  clear A30
  by_cases c4 : t204 < 1
  · rw [if_pos c4] at H
    have c4b0 : decide (t204 < 1) = true := decide_eq_true c4
    clear c4
    simp only [Option.some.injEq, Prod.mk.injEq] at H
    obtain ⟨rfl, rfl, rfl, rfl, rfl, rfl, rfl, rfl⟩ := H
    go_enter Try.func14, Try.ntmps14
    go_wp2_with (first | ((with_reducible refine gate_dst (N := 3) rfl ?_); refine box_event ?hg (N := 3) ?hd (cs := #[.int .u8 a1_0, .int .u8 a1_1, .int .u8 a1_2]) (t := 24) ?hr ?_; (case hd => rfl); (case hg => rfl); (case hr => first | (go_simp; done) | (go_simp; rfl)); intro gb202 hg w5 hbox hb; have n0_ := Aside0.mk (below_step (by repeat (first | (with_reducible first | exact HB.out | apply below_alloc | apply pw_below_drewN | apply below_drew1) | exact HB.out)) hb); have n1_ := Aside0.mk (hbox); have n2_ := Aside0.mk ((by rw [hg]; exact (below_size (by repeat (first | (with_reducible first | exact HB.out | apply below_alloc | apply pw_below_drewN | apply below_drew1) | exact HB.out))) : w.heap.size ≤ gb202)); have n3_ := Aside0.mk ((by rw [hg]; exact (below_size (by repeat (first | (with_reducible first | exact HB.out | apply below_alloc | apply pw_below_drewN | apply below_drew1) | exact HB.out))) : w.heap.size ≤ gb202)); clear HB; have HB := n0_; have BK202 := n1_; have GW202 := n2_; have GE202 := n3_; clear n0_ n1_ n2_ n3_; clear hb hbox hg) | ((with_reducible refine gate_dst (N := 4) rfl ?_); refine box_event ?hg (N := 4) ?hd (cs := #[.int .i32 0, .int .i32 0, .int .i32 0, .int .u8 0, .int .u8 0, .int .u8 0, .int .u8 0]) (t := 26) ?hr ?_; (case hd => rfl); (case hg => rfl); (case hr => first | (go_simp; done) | (go_simp; rfl)); intro gb203 hg w6 hbox hb; have n0_ := Aside0.mk (blk_below (g := gb202) (o := .cells #[.int .u8 a1_0, .int .u8 a1_1, .int .u8 a1_2] 24 (0, 0)) (by (with_reducible repeat (first | refine blk_drewN ?_ _ | refine blk_drew ?_ | refine blk_alloc ?_ _)); exact BK202.out) hb); have n1_ := Aside0.mk (below_step (by repeat (first | (with_reducible first | exact HB.out | apply below_alloc | apply pw_below_drewN | apply below_drew1 | refine below_set ?_ GE202.out) | exact HB.out)) hb); have n2_ := Aside0.mk (hbox); have n3_ := Aside0.mk ((by rw [hg]; exact (below_size (by repeat (first | (with_reducible first | exact HB.out | apply below_alloc | apply pw_below_drewN | apply below_drew1 | refine below_set ?_ GE202.out) | exact HB.out))) : w.heap.size ≤ gb203)); have n4_ := Aside0.mk ((by rw [hg]; exact (below_size (by repeat (first | (with_reducible first | exact HB.out | apply below_alloc | apply pw_below_drewN | apply below_drew1 | refine below_set ?_ GE202.out) | exact HB.out))) : w.heap.size ≤ gb203)); have n5_ := Aside0.mk ((by rw [hg]; exact Nat.ne_of_lt (blk_lt (g := gb202) (o := .cells #[.int .u8 a1_0, .int .u8 a1_1, .int .u8 a1_2] 24 (0, 0)) (by (with_reducible repeat (first | refine blk_drewN ?_ _ | refine blk_drew ?_ | refine blk_alloc ?_ _)); exact BK202.out)) : gb202 ≠ gb203)); have n6_ := Aside0.mk ((by rw [hg]; exact Nat.ne_of_gt (blk_lt (g := gb202) (o := .cells #[.int .u8 a1_0, .int .u8 a1_1, .int .u8 a1_2] 24 (0, 0)) (by (with_reducible repeat (first | refine blk_drewN ?_ _ | refine blk_drew ?_ | refine blk_alloc ?_ _)); exact BK202.out)) : gb203 ≠ gb202)); clear BK202; clear HB; have BK202 := n0_; have HB := n1_; have BK203 := n2_; have GW203 := n3_; have GE203 := n4_; have NB202_203 := n5_; have NB203_202 := n6_; clear n0_ n1_ n2_ n3_ n4_ n5_ n6_; clear hb hbox hg) | ((with_reducible refine gate_callee (f := 84) rfl ?_); refine goesL_ (some 8) rfl rfl Try.func84 (by kernel_rfl) rfl #[.int .i32 a0] rfl (by (try simp only [List.map_toArray, List.map_cons, List.map_nil]); first | done | rfl | (simp only [List.length_drop, List.length_take]; rfl)) ?_; (with_reducible refine (width_Of.calls a0 t204 _ A3.out).mono ?_); rintro e w7 ⟨rfl, hb⟩; refine ⟨_, rfl, ?_⟩; have n0_ := Aside0.mk (blk_below (g := gb202) (o := .cells #[.int .u8 a1_0, .int .u8 a1_1, .int .u8 a1_2] 24 (0, 0)) (by (with_reducible repeat (first | refine blk_drewN ?_ _ | refine blk_drew ?_ | refine blk_alloc ?_ _)); exact BK202.out) hb); have n1_ := Aside0.mk (blk_below (g := gb203) (o := .cells #[.int .i32 0, .int .i32 0, .int .i32 0, .int .u8 0, .int .u8 0, .int .u8 0, .int .u8 0] 26 (0, 0)) (by (with_reducible repeat (first | refine blk_drewN ?_ _ | refine blk_drew ?_ | refine blk_alloc ?_ _)); exact BK203.out) hb); have n2_ := Aside0.mk (below_step (by repeat (first | (with_reducible first | exact HB.out | apply below_alloc | apply pw_below_drewN | apply below_drew1 | refine below_set ?_ GE202.out | refine below_set ?_ GE203.out) | exact HB.out)) hb); clear BK202; clear BK203; clear HB; have BK202 := n0_; have BK203 := n1_; have HB := n2_; clear n0_ n1_ n2_; (try clear hb); (try clear hb2); (try clear hk); (try clear hi); have hnb8 := NB203_202.out; have hnc8 := NB202_203.out; have hcz9_0 : w7.cell? ⟨gb203, 0, none⟩ = some (.int .i32 0) := (blk_cell BK203.out 0).trans rfl; have hcz9_1 : w7.cell? ⟨gb203, 1, none⟩ = some (.int .i32 0) := (blk_cell BK203.out 1).trans rfl; have hcz9_2 : w7.cell? ⟨gb203, 2, none⟩ = some (.int .i32 0) := (blk_cell BK203.out 2).trans rfl; have hcz9_3 : w7.cell? ⟨gb203, 3, none⟩ = some (.int .u8 0) := (blk_cell BK203.out 3).trans rfl; have hcz9_4 : w7.cell? ⟨gb203, 4, none⟩ = some (.int .u8 0) := (blk_cell BK203.out 4).trans rfl; have hcz9_5 : w7.cell? ⟨gb203, 5, none⟩ = some (.int .u8 0) := (blk_cell BK203.out 5).trans rfl; have hcz9_6 : w7.cell? ⟨gb203, 6, none⟩ = some (.int .u8 0) := (blk_cell BK203.out 6).trans rfl; have hfz9_0 := blk_frozen BK203.out 0; have hfz9_1 := blk_frozen BK203.out 1; have hfz9_2 := blk_frozen BK203.out 2; have hfz9_3 := blk_frozen BK203.out 3; have hfz9_4 := blk_frozen BK203.out 4; have hfz9_5 := blk_frozen BK203.out 5; have hfz9_6 := blk_frozen BK203.out 6))
    refine bodyPost_ret (results_ct rfl _ _ gb203 26 #[.int .i32 0, .int .i32 0, .int .i32 0, .int .u8 0, .int .u8 0, .int .u8 0, .int .u8 0] (0, 0) _ rfl (by (with_reducible repeat (first | refine blk_drewN ?_ _ | refine blk_drew ?_ | refine blk_alloc ?_ _)); refine blk_put (cs := #[.int .i32 0, .int .i32 0, .int .i32 0, .int .u8 0, .int .u8 0, .int .u8 0, .int .u8 0]) ?_ 6 _ rfl; (with_reducible repeat (first | refine blk_drewN ?_ _ | refine blk_drew ?_ | refine blk_alloc ?_ _)); refine blk_put (cs := #[.int .i32 0, .int .i32 0, .int .i32 0, .int .u8 0, .int .u8 0, .int .u8 0, .int .u8 0]) ?_ 5 _ rfl; (with_reducible repeat (first | refine blk_drewN ?_ _ | refine blk_drew ?_ | refine blk_alloc ?_ _)); refine blk_put (cs := #[.int .i32 0, .int .i32 0, .int .i32 0, .int .u8 0, .int .u8 0, .int .u8 0, .int .u8 0]) ?_ 4 _ rfl; (with_reducible repeat (first | refine blk_drewN ?_ _ | refine blk_drew ?_ | refine blk_alloc ?_ _)); refine blk_put (cs := #[.int .i32 0, .int .i32 0, .int .i32 0, .int .u8 0, .int .u8 0, .int .u8 0, .int .u8 0]) ?_ 3 _ rfl; (with_reducible repeat (first | refine blk_drewN ?_ _ | refine blk_drew ?_ | refine blk_alloc ?_ _)); refine blk_put (cs := #[.int .i32 0, .int .i32 0, .int .i32 0, .int .u8 0, .int .u8 0, .int .u8 0, .int .u8 0]) ?_ 2 _ rfl; (with_reducible repeat (first | refine blk_drewN ?_ _ | refine blk_drew ?_ | refine blk_alloc ?_ _)); refine blk_put (cs := #[.int .i32 0, .int .i32 0, .int .i32 0, .int .u8 0, .int .u8 0, .int .u8 0, .int .u8 0]) ?_ 1 _ rfl; (with_reducible repeat (first | refine blk_drewN ?_ _ | refine blk_drew ?_ | refine blk_alloc ?_ _)); refine blk_put (cs := #[.int .i32 0, .int .i32 0, .int .i32 0, .int .u8 0, .int .u8 0, .int .u8 0, .int .u8 0]) ?_ 0 _ rfl; (with_reducible repeat (first | refine blk_drewN ?_ _ | refine blk_drew ?_ | refine blk_alloc ?_ _)); exact BK203.out) Try.underlying26 rfl (by kernel_rfl)) rfl ?_
    exact ⟨by first | rfl | (simp <;> rfl) | (simp [*] <;> rfl), by repeat (first | (with_reducible first | exact HB.out | apply below_alloc | apply pw_below_drewN | apply below_drew1 | refine below_set ?_ GE202.out | refine below_set ?_ GE203.out) | exact HB.out)⟩
  · rw [if_neg c4] at H
    have c4b0 : decide (t204 < 1) = false := decide_eq_false c4
    clear c4
    simp only [Option.some.injEq, Prod.mk.injEq] at H
    obtain ⟨rfl, rfl, rfl, rfl, rfl, rfl, rfl, rfl⟩ := H
    go_enter Try.func14, Try.ntmps14
    go_wp2_with (first | ((with_reducible refine gate_dst (N := 3) rfl ?_); refine box_event ?hg (N := 3) ?hd (cs := #[.int .u8 a1_0, .int .u8 a1_1, .int .u8 a1_2]) (t := 24) ?hr ?_; (case hd => rfl); (case hg => rfl); (case hr => first | (go_simp; done) | (go_simp; rfl)); intro gb202 hg w10 hbox hb; have n0_ := Aside0.mk (below_step (by repeat (first | (with_reducible first | exact HB.out | apply below_alloc | apply pw_below_drewN | apply below_drew1) | exact HB.out)) hb); have n1_ := Aside0.mk (hbox); have n2_ := Aside0.mk ((by rw [hg]; exact (below_size (by repeat (first | (with_reducible first | exact HB.out | apply below_alloc | apply pw_below_drewN | apply below_drew1) | exact HB.out))) : w.heap.size ≤ gb202)); have n3_ := Aside0.mk ((by rw [hg]; exact (below_size (by repeat (first | (with_reducible first | exact HB.out | apply below_alloc | apply pw_below_drewN | apply below_drew1) | exact HB.out))) : w.heap.size ≤ gb202)); clear HB; have HB := n0_; have BK202 := n1_; have GW202 := n2_; have GE202 := n3_; clear n0_ n1_ n2_ n3_; clear hb hbox hg) | ((with_reducible refine gate_dst (N := 4) rfl ?_); refine box_event ?hg (N := 4) ?hd (cs := #[.int .i32 0, .int .i32 0, .int .i32 0, .int .u8 0, .int .u8 0, .int .u8 0, .int .u8 0]) (t := 26) ?hr ?_; (case hd => rfl); (case hg => rfl); (case hr => first | (go_simp; done) | (go_simp; rfl)); intro gb203 hg w11 hbox hb; have n0_ := Aside0.mk (blk_below (g := gb202) (o := .cells #[.int .u8 a1_0, .int .u8 a1_1, .int .u8 a1_2] 24 (0, 0)) (by (with_reducible repeat (first | refine blk_drewN ?_ _ | refine blk_drew ?_ | refine blk_alloc ?_ _)); exact BK202.out) hb); have n1_ := Aside0.mk (below_step (by repeat (first | (with_reducible first | exact HB.out | apply below_alloc | apply pw_below_drewN | apply below_drew1 | refine below_set ?_ GE202.out) | exact HB.out)) hb); have n2_ := Aside0.mk (hbox); have n3_ := Aside0.mk ((by rw [hg]; exact (below_size (by repeat (first | (with_reducible first | exact HB.out | apply below_alloc | apply pw_below_drewN | apply below_drew1 | refine below_set ?_ GE202.out) | exact HB.out))) : w.heap.size ≤ gb203)); have n4_ := Aside0.mk ((by rw [hg]; exact (below_size (by repeat (first | (with_reducible first | exact HB.out | apply below_alloc | apply pw_below_drewN | apply below_drew1 | refine below_set ?_ GE202.out) | exact HB.out))) : w.heap.size ≤ gb203)); have n5_ := Aside0.mk ((by rw [hg]; exact Nat.ne_of_lt (blk_lt (g := gb202) (o := .cells #[.int .u8 a1_0, .int .u8 a1_1, .int .u8 a1_2] 24 (0, 0)) (by (with_reducible repeat (first | refine blk_drewN ?_ _ | refine blk_drew ?_ | refine blk_alloc ?_ _)); exact BK202.out)) : gb202 ≠ gb203)); have n6_ := Aside0.mk ((by rw [hg]; exact Nat.ne_of_gt (blk_lt (g := gb202) (o := .cells #[.int .u8 a1_0, .int .u8 a1_1, .int .u8 a1_2] 24 (0, 0)) (by (with_reducible repeat (first | refine blk_drewN ?_ _ | refine blk_drew ?_ | refine blk_alloc ?_ _)); exact BK202.out)) : gb203 ≠ gb202)); clear BK202; clear HB; have BK202 := n0_; have HB := n1_; have BK203 := n2_; have GW203 := n3_; have GE203 := n4_; have NB202_203 := n5_; have NB203_202 := n6_; clear n0_ n1_ n2_ n3_ n4_ n5_ n6_; clear hb hbox hg) | ((with_reducible refine gate_callee (f := 84) rfl ?_); refine goesL_ (some 8) rfl rfl Try.func84 (by kernel_rfl) rfl #[.int .i32 a0] rfl (by (try simp only [List.map_toArray, List.map_cons, List.map_nil]); first | done | rfl | (simp only [List.length_drop, List.length_take]; rfl)) ?_; (with_reducible refine (width_Of.calls a0 t204 _ A3.out).mono ?_); rintro e w12 ⟨rfl, hb⟩; refine ⟨_, rfl, ?_⟩; have n0_ := Aside0.mk (blk_below (g := gb202) (o := .cells #[.int .u8 a1_0, .int .u8 a1_1, .int .u8 a1_2] 24 (0, 0)) (by (with_reducible repeat (first | refine blk_drewN ?_ _ | refine blk_drew ?_ | refine blk_alloc ?_ _)); exact BK202.out) hb); have n1_ := Aside0.mk (blk_below (g := gb203) (o := .cells #[.int .i32 0, .int .i32 0, .int .i32 0, .int .u8 0, .int .u8 0, .int .u8 0, .int .u8 0] 26 (0, 0)) (by (with_reducible repeat (first | refine blk_drewN ?_ _ | refine blk_drew ?_ | refine blk_alloc ?_ _)); exact BK203.out) hb); have n2_ := Aside0.mk (below_step (by repeat (first | (with_reducible first | exact HB.out | apply below_alloc | apply pw_below_drewN | apply below_drew1 | refine below_set ?_ GE202.out | refine below_set ?_ GE203.out) | exact HB.out)) hb); clear BK202; clear BK203; clear HB; have BK202 := n0_; have BK203 := n1_; have HB := n2_; clear n0_ n1_ n2_; (try clear hb); (try clear hb2); (try clear hk); (try clear hi); have hnb13 := NB202_203.out; have hnc13 := NB203_202.out; have hcz14_0 : w12.cell? ⟨gb202, 0, none⟩ = some (.int .u8 a1_0) := (blk_cell BK202.out 0).trans rfl; have hcz14_1 : w12.cell? ⟨gb202, 1, none⟩ = some (.int .u8 a1_1) := (blk_cell BK202.out 1).trans rfl; have hcz14_2 : w12.cell? ⟨gb202, 2, none⟩ = some (.int .u8 a1_2) := (blk_cell BK202.out 2).trans rfl; have hfz14_0 := blk_frozen BK202.out 0; have hfz14_1 := blk_frozen BK202.out 1; have hfz14_2 := blk_frozen BK202.out 2; have hcz15_0 : w12.cell? ⟨gb203, 0, none⟩ = some (.int .i32 0) := (blk_cell BK203.out 0).trans rfl; have hcz15_1 : w12.cell? ⟨gb203, 1, none⟩ = some (.int .i32 0) := (blk_cell BK203.out 1).trans rfl; have hcz15_2 : w12.cell? ⟨gb203, 2, none⟩ = some (.int .i32 0) := (blk_cell BK203.out 2).trans rfl; have hcz15_3 : w12.cell? ⟨gb203, 3, none⟩ = some (.int .u8 0) := (blk_cell BK203.out 3).trans rfl; have hcz15_4 : w12.cell? ⟨gb203, 4, none⟩ = some (.int .u8 0) := (blk_cell BK203.out 4).trans rfl; have hcz15_5 : w12.cell? ⟨gb203, 5, none⟩ = some (.int .u8 0) := (blk_cell BK203.out 5).trans rfl; have hcz15_6 : w12.cell? ⟨gb203, 6, none⟩ = some (.int .u8 0) := (blk_cell BK203.out 6).trans rfl; have hfz15_0 := blk_frozen BK203.out 0; have hfz15_1 := blk_frozen BK203.out 1; have hfz15_2 := blk_frozen BK203.out 2; have hfz15_3 := blk_frozen BK203.out 3; have hfz15_4 := blk_frozen BK203.out 4; have hfz15_5 := blk_frozen BK203.out 5; have hfz15_6 := blk_frozen BK203.out 6))
    refine bodyPost_ret (results_ct rfl _ _ gb203 26 #[.int .i32 a0, .int .i32 0, .int .i32 0, .int .u8 ((t204) % 256), .int .u8 a1_0, .int .u8 a1_1, .int .u8 a1_2] (0, 0) _ rfl (by (with_reducible repeat (first | refine blk_drewN ?_ _ | refine blk_drew ?_ | refine blk_alloc ?_ _)); refine blk_put (cs := #[.int .i32 a0, .int .i32 0, .int .i32 0, .int .u8 ((t204) % 256), .int .u8 a1_0, .int .u8 a1_1, .int .u8 0]) ?_ 6 _ rfl; (with_reducible repeat (first | refine blk_drewN ?_ _ | refine blk_drew ?_ | refine blk_alloc ?_ _)); refine blk_put (cs := #[.int .i32 a0, .int .i32 0, .int .i32 0, .int .u8 ((t204) % 256), .int .u8 a1_0, .int .u8 0, .int .u8 0]) ?_ 5 _ rfl; (with_reducible repeat (first | refine blk_drewN ?_ _ | refine blk_drew ?_ | refine blk_alloc ?_ _)); refine blk_put (cs := #[.int .i32 a0, .int .i32 0, .int .i32 0, .int .u8 ((t204) % 256), .int .u8 0, .int .u8 0, .int .u8 0]) ?_ 4 _ rfl; (with_reducible repeat (first | refine blk_drewN ?_ _ | refine blk_drew ?_ | refine blk_alloc ?_ _)); refine blk_put (cs := #[.int .i32 a0, .int .i32 0, .int .i32 0, .int .u8 0, .int .u8 0, .int .u8 0, .int .u8 0]) ?_ 3 _ rfl; (with_reducible repeat (first | refine blk_drewN ?_ _ | refine blk_drew ?_ | refine blk_alloc ?_ _)); refine blk_put (cs := #[.int .i32 a0, .int .i32 0, .int .i32 0, .int .u8 0, .int .u8 0, .int .u8 0, .int .u8 0]) ?_ 2 _ rfl; (with_reducible repeat (first | refine blk_drewN ?_ _ | refine blk_drew ?_ | refine blk_alloc ?_ _)); refine blk_put (cs := #[.int .i32 a0, .int .i32 0, .int .i32 0, .int .u8 0, .int .u8 0, .int .u8 0, .int .u8 0]) ?_ 1 _ rfl; (with_reducible repeat (first | refine blk_drewN ?_ _ | refine blk_drew ?_ | refine blk_alloc ?_ _)); refine blk_put (cs := #[.int .i32 0, .int .i32 0, .int .i32 0, .int .u8 0, .int .u8 0, .int .u8 0, .int .u8 0]) ?_ 0 _ rfl; (with_reducible repeat (first | refine blk_drewN ?_ _ | refine blk_drew ?_ | refine blk_alloc ?_ _)); exact BK203.out) Try.underlying26 rfl (by kernel_rfl)) rfl ?_
    exact ⟨by first | rfl | (simp <;> rfl) | (simp [*] <;> rfl), by repeat (first | (with_reducible first | exact HB.out | apply below_alloc | apply pw_below_drewN | apply below_drew1 | refine below_set ?_ GE202.out | refine below_set ?_ GE203.out) | exact HB.out)⟩

/-! ### line_New: function 51 -/
def line_New.f (k : Nat) (a0 : Int) : Option ((List (S26))) := (line_length.f a0).bind fun t205 => ((line_blanks.f k t205 0 0 0).bind fun t206 => (some t206))
set_option maxHeartbeats 8000000 in
set_option maxRecDepth 100000 in
theorem line_New.calls (k : Nat) (a0 : Int) (r : List (S26)) (w : World) (h : line_New.f k a0 = some r) :
    Calls Try.prog 51 #[.int .i64 a0] w fun e w' => ∃ v0_ : Value, e = .returned (v0_) ∧ Kd.R k26 26 w' w.heap.size (fun _ => True) v0_ r ∧ Below w.heap.size w w' := by
  have hu24 := Try.underlying24
  have HB := Aside0.mk (Below.refl w.heap.size w)
  have H : ((line_length.f a0).bind fun t205 => ((line_blanks.f k t205 0 0 0).bind fun t206 => (some t206))) = some r := h
  clear h
  replace H := Option.bind_eq_some_iff.mp H
  obtain ⟨t205, A20, H⟩ := H
  replace H : ((line_blanks.f k t205 0 0 0).bind fun t206 => (some t206)) = some r := H
  have A2 := Aside0.mk A20
  clear A20
  replace H := Option.bind_eq_some_iff.mp H
  obtain ⟨t206, A30, H⟩ := H
  replace H : (some t206) = some r := H
  have A3 := Aside0.mk A30
  clear A30
  obtain rfl := Option.some.inj H
  go_enter Try.func51, Try.ntmps51
  go_wp2_with (first | ((with_reducible refine gate_callee (f := 98) rfl ?_); refine goesL_ (some 4) rfl rfl Try.func98 (by kernel_rfl) rfl #[.int .i64 a0] rfl (by (try simp only [List.map_toArray, List.map_cons, List.map_nil]); first | done | rfl | (simp only [List.length_drop, List.length_take]; rfl)) ?_; (with_reducible refine (line_length.calls a0 t205 _ A2.out).mono ?_); rintro e w4 ⟨rfl, hb⟩; refine ⟨_, rfl, ?_⟩; have n0_ := Aside0.mk (below_step (by repeat (first | (with_reducible first | exact HB.out | apply below_alloc | apply pw_below_drewN | apply below_drew1) | exact HB.out)) hb); clear HB; have HB := n0_; clear n0_; (try clear hb); (try clear hb2); (try clear hk); (try clear hi)) | ((with_reducible refine gate_callee (f := 99) rfl ?_); refine goesL_ (some 6) rfl rfl Try.func99 (by kernel_rfl) rfl #[.int .i64 t205, .agg #[.int .u8 0, .int .u8 0, .int .u8 0]] rfl (by (try simp only [List.map_toArray, List.map_cons, List.map_nil]); first | done | rfl | (simp only [List.length_drop, List.length_take]; rfl)) ?_; (with_reducible refine (line_blanks.calls k t205 0 0 0 t206 _ A3.out).mono ?_); rintro e w5 ⟨v207, rfl, ho0, hb⟩; refine ⟨_, rfl, ?_⟩; have n0_ := Aside0.mk (Kd.R_lower ho0 (below_size (by repeat (first | (with_reducible first | exact HB.out | apply below_alloc | apply pw_below_drewN | apply below_drew1) | exact HB.out)))); have n1_ := Aside0.mk (below_step (by repeat (first | (with_reducible first | exact HB.out | apply below_alloc | apply pw_below_drewN | apply below_drew1) | exact HB.out)) hb); clear HB; have HO208 := n0_; have HB := n1_; clear n0_ n1_; (try clear hb); (try clear hb2); (try clear hk); (try clear hi); (try clear ho0)))
  go_ret
  exact ⟨_, by first | rfl | (simp <;> rfl) | (simp [*] <;> rfl), by (with_reducible repeat (first | apply Kd.R_alloc | apply Kd.R_drewN | apply Kd.R_drew)); exact HO208.out, by repeat (first | (with_reducible first | exact HB.out | apply below_alloc | apply pw_below_drewN | apply below_drew1) | exact HB.out)⟩

/-! ### prolepsislaw06_knownB: function 41 -/
def prolepsislaw06_knownB.f (k : Nat)  : Option (Bool) := (cell_Of.f 12354 0 0 0).bind fun bt209 => ((cell_Of.f 97 0 0 0).bind fun bt218 => ((cell_Blank.f 0 0 0).bind fun bt227 => ((line_New.f k 4).bind fun t235 => ((line_Put.f k t235 1 bt209.1 bt209.2.1 bt209.2.2.1 bt209.2.2.2.1 bt209.2.2.2.2.1 bt209.2.2.2.2.2.1 bt209.2.2.2.2.2.2.1).bind fun bt238 => ((line_Put.f k bt238.1 2 bt218.1 bt218.2.1 bt218.2.2.1 bt218.2.2.2.1 bt218.2.2.2.2.1 bt218.2.2.2.2.2.1 bt218.2.2.2.2.2.2.1).bind fun bt242 => (if bt238.2 = true then ((cell_Rest.f bt209.1 bt209.2.1 bt209.2.2.1 bt209.2.2.2.1 bt209.2.2.2.2.1 bt209.2.2.2.2.2.1 bt209.2.2.2.2.2.2.1).bind fun bt246 => ((line_Same.f k bt238.1 (([(⟨bt227.1, (⟨bt227.2.1, bt227.2.2.1⟩ : S22), bt227.2.2.2.1, (⟨bt227.2.2.2.2.1, bt227.2.2.2.2.2.1, bt227.2.2.2.2.2.2⟩ : S24)⟩ : S26), (⟨bt209.1, (⟨bt209.2.1, bt209.2.2.1⟩ : S22), bt209.2.2.2.1, (⟨bt209.2.2.2.2.1, bt209.2.2.2.2.2.1, bt209.2.2.2.2.2.2.1⟩ : S24)⟩ : S26), (⟨bt246.1, (⟨bt246.2.1, bt246.2.2.1⟩ : S22), bt246.2.2.2.1, (⟨bt246.2.2.2.2.1, bt246.2.2.2.2.2.1, bt246.2.2.2.2.2.2⟩ : S24)⟩ : S26), (⟨bt227.1, (⟨bt227.2.1, bt227.2.2.1⟩ : S22), bt227.2.2.2.1, (⟨bt227.2.2.2.2.1, bt227.2.2.2.2.2.1, bt227.2.2.2.2.2.2⟩ : S24)⟩ : S26)] : List (S26)))).bind fun t256 => (if t256 = true then (if bt242.2 = true then ((line_Same.f k bt242.1 (([(⟨bt227.1, (⟨bt227.2.1, bt227.2.2.1⟩ : S22), bt227.2.2.2.1, (⟨bt227.2.2.2.2.1, bt227.2.2.2.2.2.1, bt227.2.2.2.2.2.2⟩ : S24)⟩ : S26), (⟨bt227.1, (⟨bt227.2.1, bt227.2.2.1⟩ : S22), bt227.2.2.2.1, (⟨bt227.2.2.2.2.1, bt227.2.2.2.2.2.1, bt227.2.2.2.2.2.2⟩ : S24)⟩ : S26), (⟨bt218.1, (⟨bt218.2.1, bt218.2.2.1⟩ : S22), bt218.2.2.2.1, (⟨bt218.2.2.2.2.1, bt218.2.2.2.2.2.1, bt218.2.2.2.2.2.2.1⟩ : S24)⟩ : S26), (⟨bt227.1, (⟨bt227.2.1, bt227.2.2.1⟩ : S22), bt227.2.2.2.1, (⟨bt227.2.2.2.2.1, bt227.2.2.2.2.2.1, bt227.2.2.2.2.2.2⟩ : S24)⟩ : S26)] : List (S26)))).bind fun t260 => (if t260 = true then (some (bt227.1 == 32)) else (some false))) else (some false)) else (some false)))) else (some false)))))))
def prolepsislaw06_knownB.T4 : Bool × List (List Nat × List Nat) := (true, [([], []), ([], []), ([0, 1, 0], [0, 1]), ([2], [2]), ([3], [3]), ([3], [3]), ([4, 2, 0, 1, 2, 3, 4], [4]), ([5, 6, 0, 1, 2, 3, 4, 5, 6], [5])])
def prolepsislaw06_knownB.B4 : List Nat := [0, 0, 3, 7, 15, 15, 31, 127]
theorem prolepsislaw06_knownB.tab4 : rtab .any (opsOf Try.f41 4) = prolepsislaw06_knownB.T4 := by kernel_rfl
theorem prolepsislaw06_knownB.bits4 : waitsOk prolepsislaw06_knownB.T4.2 prolepsislaw06_knownB.B4 = true := by kernel_rfl
def prolepsislaw06_knownB.T6 : Bool × List (List Nat × List Nat) := (true, [([], []), ([0], [0]), ([1], [1]), ([1], [1]), ([1], [1]), ([1], [1]), ([5, 1, 1], [1, 5]), ([1], [1]), ([3, 4, 6, 7, 1], [1, 3, 4, 6, 7]), ([2, 8, 6, 1], [1, 2, 8]), ([1, 9], [1, 9]), ([10, 9], [10]), ([11], [11]), ([11, 12], [11, 12]), ([13, 11], [13]), ([14], [14]), ([14], [14]), ([14], [14]), ([14], [14]), ([14], [14]), ([16, 17, 18, 19, 14], [14, 16, 17, 18, 19]), ([15, 20, 14, 14], [14, 15, 20]), ([14, 21], [14, 21]), ([22, 21], [22]), ([23], [23]), ([24, 23], [23, 24]), ([25, 23], [23, 25]), ([23, 26], [23, 26]), ([27, 23, 0, 1, 2, 3, 4, 5, 6, 7, 8, 9, 10, 11, 12, 13, 14, 15, 16, 17, 18, 19, 20, 21, 22, 23, 24, 25, 26, 27], [27])])
def prolepsislaw06_knownB.B6 : List Nat := [0, 1, 3, 3, 3, 3, 35, 3, 251, 511, 1023, 2047, 4095, 8191, 16383, 32767, 32767, 32767, 32767, 32767, 1015807, 2097151, 4194303, 8388607, 16777215, 33554431, 67108863, 134217727, 268435455]
theorem prolepsislaw06_knownB.tab6 : rtab .any (opsOf Try.f41 6) = prolepsislaw06_knownB.T6 := by kernel_rfl
theorem prolepsislaw06_knownB.bits6 : waitsOk prolepsislaw06_knownB.T6.2 prolepsislaw06_knownB.B6 = true := by kernel_rfl
set_option maxHeartbeats 8000000 in
set_option maxRecDepth 100000 in
theorem prolepsislaw06_knownB.calls (k : Nat)  (r : Bool) (w : World) (h : prolepsislaw06_knownB.f k  = some r) (hr : r = true) :
    Calls Try.prog 41 #[] w fun e w' => e = .returned (.bool r) ∧ Below w.heap.size w w' := by
  have HRT := Aside0.mk hr
  clear hr
  have hu24 := Try.underlying24
  have hu26 := Try.underlying26
  have HB := Aside0.mk (Below.refl w.heap.size w)
  have H : ((cell_Of.f 12354 0 0 0).bind fun bt209 => ((cell_Of.f 97 0 0 0).bind fun bt218 => ((cell_Blank.f 0 0 0).bind fun bt227 => ((line_New.f k 4).bind fun t235 => ((line_Put.f k t235 1 bt209.1 bt209.2.1 bt209.2.2.1 bt209.2.2.2.1 bt209.2.2.2.2.1 bt209.2.2.2.2.2.1 bt209.2.2.2.2.2.2.1).bind fun bt238 => ((line_Put.f k bt238.1 2 bt218.1 bt218.2.1 bt218.2.2.1 bt218.2.2.2.1 bt218.2.2.2.2.1 bt218.2.2.2.2.2.1 bt218.2.2.2.2.2.2.1).bind fun bt242 => (if bt238.2 = true then ((cell_Rest.f bt209.1 bt209.2.1 bt209.2.2.1 bt209.2.2.2.1 bt209.2.2.2.2.1 bt209.2.2.2.2.2.1 bt209.2.2.2.2.2.2.1).bind fun bt246 => ((line_Same.f k bt238.1 (([(⟨bt227.1, (⟨bt227.2.1, bt227.2.2.1⟩ : S22), bt227.2.2.2.1, (⟨bt227.2.2.2.2.1, bt227.2.2.2.2.2.1, bt227.2.2.2.2.2.2⟩ : S24)⟩ : S26), (⟨bt209.1, (⟨bt209.2.1, bt209.2.2.1⟩ : S22), bt209.2.2.2.1, (⟨bt209.2.2.2.2.1, bt209.2.2.2.2.2.1, bt209.2.2.2.2.2.2.1⟩ : S24)⟩ : S26), (⟨bt246.1, (⟨bt246.2.1, bt246.2.2.1⟩ : S22), bt246.2.2.2.1, (⟨bt246.2.2.2.2.1, bt246.2.2.2.2.2.1, bt246.2.2.2.2.2.2⟩ : S24)⟩ : S26), (⟨bt227.1, (⟨bt227.2.1, bt227.2.2.1⟩ : S22), bt227.2.2.2.1, (⟨bt227.2.2.2.2.1, bt227.2.2.2.2.2.1, bt227.2.2.2.2.2.2⟩ : S24)⟩ : S26)] : List (S26)))).bind fun t256 => (if t256 = true then (if bt242.2 = true then ((line_Same.f k bt242.1 (([(⟨bt227.1, (⟨bt227.2.1, bt227.2.2.1⟩ : S22), bt227.2.2.2.1, (⟨bt227.2.2.2.2.1, bt227.2.2.2.2.2.1, bt227.2.2.2.2.2.2⟩ : S24)⟩ : S26), (⟨bt227.1, (⟨bt227.2.1, bt227.2.2.1⟩ : S22), bt227.2.2.2.1, (⟨bt227.2.2.2.2.1, bt227.2.2.2.2.2.1, bt227.2.2.2.2.2.2⟩ : S24)⟩ : S26), (⟨bt218.1, (⟨bt218.2.1, bt218.2.2.1⟩ : S22), bt218.2.2.2.1, (⟨bt218.2.2.2.2.1, bt218.2.2.2.2.2.1, bt218.2.2.2.2.2.2.1⟩ : S24)⟩ : S26), (⟨bt227.1, (⟨bt227.2.1, bt227.2.2.1⟩ : S22), bt227.2.2.2.1, (⟨bt227.2.2.2.2.1, bt227.2.2.2.2.2.1, bt227.2.2.2.2.2.2⟩ : S24)⟩ : S26)] : List (S26)))).bind fun t260 => (if t260 = true then (some (bt227.1 == 32)) else (some false))) else (some false)) else (some false)))) else (some false)))))))) = some r := h
  clear h
  replace H := Option.bind_eq_some_iff.mp H
  obtain ⟨⟨t209, t210, t211, t212, t213, t214, t215, t216⟩, A10, H⟩ := H
  replace H : ((cell_Of.f 97 0 0 0).bind fun bt218 => ((cell_Blank.f 0 0 0).bind fun bt227 => ((line_New.f k 4).bind fun t235 => ((line_Put.f k t235 1 t209 t210 t211 t212 t213 t214 t215).bind fun bt238 => ((line_Put.f k bt238.1 2 bt218.1 bt218.2.1 bt218.2.2.1 bt218.2.2.2.1 bt218.2.2.2.2.1 bt218.2.2.2.2.2.1 bt218.2.2.2.2.2.2.1).bind fun bt242 => (if bt238.2 = true then ((cell_Rest.f t209 t210 t211 t212 t213 t214 t215).bind fun bt246 => ((line_Same.f k bt238.1 (([(⟨bt227.1, (⟨bt227.2.1, bt227.2.2.1⟩ : S22), bt227.2.2.2.1, (⟨bt227.2.2.2.2.1, bt227.2.2.2.2.2.1, bt227.2.2.2.2.2.2⟩ : S24)⟩ : S26), (⟨t209, (⟨t210, t211⟩ : S22), t212, (⟨t213, t214, t215⟩ : S24)⟩ : S26), (⟨bt246.1, (⟨bt246.2.1, bt246.2.2.1⟩ : S22), bt246.2.2.2.1, (⟨bt246.2.2.2.2.1, bt246.2.2.2.2.2.1, bt246.2.2.2.2.2.2⟩ : S24)⟩ : S26), (⟨bt227.1, (⟨bt227.2.1, bt227.2.2.1⟩ : S22), bt227.2.2.2.1, (⟨bt227.2.2.2.2.1, bt227.2.2.2.2.2.1, bt227.2.2.2.2.2.2⟩ : S24)⟩ : S26)] : List (S26)))).bind fun t256 => (if t256 = true then (if bt242.2 = true then ((line_Same.f k bt242.1 (([(⟨bt227.1, (⟨bt227.2.1, bt227.2.2.1⟩ : S22), bt227.2.2.2.1, (⟨bt227.2.2.2.2.1, bt227.2.2.2.2.2.1, bt227.2.2.2.2.2.2⟩ : S24)⟩ : S26), (⟨bt227.1, (⟨bt227.2.1, bt227.2.2.1⟩ : S22), bt227.2.2.2.1, (⟨bt227.2.2.2.2.1, bt227.2.2.2.2.2.1, bt227.2.2.2.2.2.2⟩ : S24)⟩ : S26), (⟨bt218.1, (⟨bt218.2.1, bt218.2.2.1⟩ : S22), bt218.2.2.2.1, (⟨bt218.2.2.2.2.1, bt218.2.2.2.2.2.1, bt218.2.2.2.2.2.2.1⟩ : S24)⟩ : S26), (⟨bt227.1, (⟨bt227.2.1, bt227.2.2.1⟩ : S22), bt227.2.2.2.1, (⟨bt227.2.2.2.2.1, bt227.2.2.2.2.2.1, bt227.2.2.2.2.2.2⟩ : S24)⟩ : S26)] : List (S26)))).bind fun t260 => (if t260 = true then (some (bt227.1 == 32)) else (some false))) else (some false)) else (some false)))) else (some false))))))) = some r := H
  have A1 := Aside0.mk A10
  clear A10
  replace H := Option.bind_eq_some_iff.mp H
  obtain ⟨⟨t218, t219, t220, t221, t222, t223, t224, t225⟩, A20, H⟩ := H
  replace H : ((cell_Blank.f 0 0 0).bind fun bt227 => ((line_New.f k 4).bind fun t235 => ((line_Put.f k t235 1 t209 t210 t211 t212 t213 t214 t215).bind fun bt238 => ((line_Put.f k bt238.1 2 t218 t219 t220 t221 t222 t223 t224).bind fun bt242 => (if bt238.2 = true then ((cell_Rest.f t209 t210 t211 t212 t213 t214 t215).bind fun bt246 => ((line_Same.f k bt238.1 (([(⟨bt227.1, (⟨bt227.2.1, bt227.2.2.1⟩ : S22), bt227.2.2.2.1, (⟨bt227.2.2.2.2.1, bt227.2.2.2.2.2.1, bt227.2.2.2.2.2.2⟩ : S24)⟩ : S26), (⟨t209, (⟨t210, t211⟩ : S22), t212, (⟨t213, t214, t215⟩ : S24)⟩ : S26), (⟨bt246.1, (⟨bt246.2.1, bt246.2.2.1⟩ : S22), bt246.2.2.2.1, (⟨bt246.2.2.2.2.1, bt246.2.2.2.2.2.1, bt246.2.2.2.2.2.2⟩ : S24)⟩ : S26), (⟨bt227.1, (⟨bt227.2.1, bt227.2.2.1⟩ : S22), bt227.2.2.2.1, (⟨bt227.2.2.2.2.1, bt227.2.2.2.2.2.1, bt227.2.2.2.2.2.2⟩ : S24)⟩ : S26)] : List (S26)))).bind fun t256 => (if t256 = true then (if bt242.2 = true then ((line_Same.f k bt242.1 (([(⟨bt227.1, (⟨bt227.2.1, bt227.2.2.1⟩ : S22), bt227.2.2.2.1, (⟨bt227.2.2.2.2.1, bt227.2.2.2.2.2.1, bt227.2.2.2.2.2.2⟩ : S24)⟩ : S26), (⟨bt227.1, (⟨bt227.2.1, bt227.2.2.1⟩ : S22), bt227.2.2.2.1, (⟨bt227.2.2.2.2.1, bt227.2.2.2.2.2.1, bt227.2.2.2.2.2.2⟩ : S24)⟩ : S26), (⟨t218, (⟨t219, t220⟩ : S22), t221, (⟨t222, t223, t224⟩ : S24)⟩ : S26), (⟨bt227.1, (⟨bt227.2.1, bt227.2.2.1⟩ : S22), bt227.2.2.2.1, (⟨bt227.2.2.2.2.1, bt227.2.2.2.2.2.1, bt227.2.2.2.2.2.2⟩ : S24)⟩ : S26)] : List (S26)))).bind fun t260 => (if t260 = true then (some (bt227.1 == 32)) else (some false))) else (some false)) else (some false)))) else (some false)))))) = some r := H
  have A2 := Aside0.mk A20
  clear A20
  replace H := Option.bind_eq_some_iff.mp H
  obtain ⟨⟨t227, t228, t229, t230, t231, t232, t233⟩, A30, H⟩ := H
  replace H : ((line_New.f k 4).bind fun t235 => ((line_Put.f k t235 1 t209 t210 t211 t212 t213 t214 t215).bind fun bt238 => ((line_Put.f k bt238.1 2 t218 t219 t220 t221 t222 t223 t224).bind fun bt242 => (if bt238.2 = true then ((cell_Rest.f t209 t210 t211 t212 t213 t214 t215).bind fun bt246 => ((line_Same.f k bt238.1 (([(⟨t227, (⟨t228, t229⟩ : S22), t230, (⟨t231, t232, t233⟩ : S24)⟩ : S26), (⟨t209, (⟨t210, t211⟩ : S22), t212, (⟨t213, t214, t215⟩ : S24)⟩ : S26), (⟨bt246.1, (⟨bt246.2.1, bt246.2.2.1⟩ : S22), bt246.2.2.2.1, (⟨bt246.2.2.2.2.1, bt246.2.2.2.2.2.1, bt246.2.2.2.2.2.2⟩ : S24)⟩ : S26), (⟨t227, (⟨t228, t229⟩ : S22), t230, (⟨t231, t232, t233⟩ : S24)⟩ : S26)] : List (S26)))).bind fun t256 => (if t256 = true then (if bt242.2 = true then ((line_Same.f k bt242.1 (([(⟨t227, (⟨t228, t229⟩ : S22), t230, (⟨t231, t232, t233⟩ : S24)⟩ : S26), (⟨t227, (⟨t228, t229⟩ : S22), t230, (⟨t231, t232, t233⟩ : S24)⟩ : S26), (⟨t218, (⟨t219, t220⟩ : S22), t221, (⟨t222, t223, t224⟩ : S24)⟩ : S26), (⟨t227, (⟨t228, t229⟩ : S22), t230, (⟨t231, t232, t233⟩ : S24)⟩ : S26)] : List (S26)))).bind fun t260 => (if t260 = true then (some (t227 == 32)) else (some false))) else (some false)) else (some false)))) else (some false))))) = some r := H
  have A3 := Aside0.mk A30
  clear A30
  replace H := Option.bind_eq_some_iff.mp H
  obtain ⟨t235, A40, H⟩ := H
  replace H : ((line_Put.f k t235 1 t209 t210 t211 t212 t213 t214 t215).bind fun bt238 => ((line_Put.f k bt238.1 2 t218 t219 t220 t221 t222 t223 t224).bind fun bt242 => (if bt238.2 = true then ((cell_Rest.f t209 t210 t211 t212 t213 t214 t215).bind fun bt246 => ((line_Same.f k bt238.1 (([(⟨t227, (⟨t228, t229⟩ : S22), t230, (⟨t231, t232, t233⟩ : S24)⟩ : S26), (⟨t209, (⟨t210, t211⟩ : S22), t212, (⟨t213, t214, t215⟩ : S24)⟩ : S26), (⟨bt246.1, (⟨bt246.2.1, bt246.2.2.1⟩ : S22), bt246.2.2.2.1, (⟨bt246.2.2.2.2.1, bt246.2.2.2.2.2.1, bt246.2.2.2.2.2.2⟩ : S24)⟩ : S26), (⟨t227, (⟨t228, t229⟩ : S22), t230, (⟨t231, t232, t233⟩ : S24)⟩ : S26)] : List (S26)))).bind fun t256 => (if t256 = true then (if bt242.2 = true then ((line_Same.f k bt242.1 (([(⟨t227, (⟨t228, t229⟩ : S22), t230, (⟨t231, t232, t233⟩ : S24)⟩ : S26), (⟨t227, (⟨t228, t229⟩ : S22), t230, (⟨t231, t232, t233⟩ : S24)⟩ : S26), (⟨t218, (⟨t219, t220⟩ : S22), t221, (⟨t222, t223, t224⟩ : S24)⟩ : S26), (⟨t227, (⟨t228, t229⟩ : S22), t230, (⟨t231, t232, t233⟩ : S24)⟩ : S26)] : List (S26)))).bind fun t260 => (if t260 = true then (some (t227 == 32)) else (some false))) else (some false)) else (some false)))) else (some false)))) = some r := H
  have A4 := Aside0.mk A40
  clear A40
  replace H := Option.bind_eq_some_iff.mp H
  obtain ⟨⟨t238, t241⟩, A50, H⟩ := H
  replace H : ((line_Put.f k t238 2 t218 t219 t220 t221 t222 t223 t224).bind fun bt242 => (if t241 = true then ((cell_Rest.f t209 t210 t211 t212 t213 t214 t215).bind fun bt246 => ((line_Same.f k t238 (([(⟨t227, (⟨t228, t229⟩ : S22), t230, (⟨t231, t232, t233⟩ : S24)⟩ : S26), (⟨t209, (⟨t210, t211⟩ : S22), t212, (⟨t213, t214, t215⟩ : S24)⟩ : S26), (⟨bt246.1, (⟨bt246.2.1, bt246.2.2.1⟩ : S22), bt246.2.2.2.1, (⟨bt246.2.2.2.2.1, bt246.2.2.2.2.2.1, bt246.2.2.2.2.2.2⟩ : S24)⟩ : S26), (⟨t227, (⟨t228, t229⟩ : S22), t230, (⟨t231, t232, t233⟩ : S24)⟩ : S26)] : List (S26)))).bind fun t256 => (if t256 = true then (if bt242.2 = true then ((line_Same.f k bt242.1 (([(⟨t227, (⟨t228, t229⟩ : S22), t230, (⟨t231, t232, t233⟩ : S24)⟩ : S26), (⟨t227, (⟨t228, t229⟩ : S22), t230, (⟨t231, t232, t233⟩ : S24)⟩ : S26), (⟨t218, (⟨t219, t220⟩ : S22), t221, (⟨t222, t223, t224⟩ : S24)⟩ : S26), (⟨t227, (⟨t228, t229⟩ : S22), t230, (⟨t231, t232, t233⟩ : S24)⟩ : S26)] : List (S26)))).bind fun t260 => (if t260 = true then (some (t227 == 32)) else (some false))) else (some false)) else (some false)))) else (some false))) = some r := H
  have A5 := Aside0.mk A50
  clear A50
  replace H := Option.bind_eq_some_iff.mp H
  obtain ⟨⟨t242, t245⟩, A60, H⟩ := H
  replace H : (if t241 = true then ((cell_Rest.f t209 t210 t211 t212 t213 t214 t215).bind fun bt246 => ((line_Same.f k t238 (([(⟨t227, (⟨t228, t229⟩ : S22), t230, (⟨t231, t232, t233⟩ : S24)⟩ : S26), (⟨t209, (⟨t210, t211⟩ : S22), t212, (⟨t213, t214, t215⟩ : S24)⟩ : S26), (⟨bt246.1, (⟨bt246.2.1, bt246.2.2.1⟩ : S22), bt246.2.2.2.1, (⟨bt246.2.2.2.2.1, bt246.2.2.2.2.2.1, bt246.2.2.2.2.2.2⟩ : S24)⟩ : S26), (⟨t227, (⟨t228, t229⟩ : S22), t230, (⟨t231, t232, t233⟩ : S24)⟩ : S26)] : List (S26)))).bind fun t256 => (if t256 = true then (if t245 = true then ((line_Same.f k t242 (([(⟨t227, (⟨t228, t229⟩ : S22), t230, (⟨t231, t232, t233⟩ : S24)⟩ : S26), (⟨t227, (⟨t228, t229⟩ : S22), t230, (⟨t231, t232, t233⟩ : S24)⟩ : S26), (⟨t218, (⟨t219, t220⟩ : S22), t221, (⟨t222, t223, t224⟩ : S24)⟩ : S26), (⟨t227, (⟨t228, t229⟩ : S22), t230, (⟨t231, t232, t233⟩ : S24)⟩ : S26)] : List (S26)))).bind fun t260 => (if t260 = true then (some (t227 == 32)) else (some false))) else (some false)) else (some false)))) else (some false)) = some r := H
  have A6 := Aside0.mk A60
  clear A60
  by_cases c7 : t241 = true
  · subst c7
    have H1 : ((cell_Rest.f t209 t210 t211 t212 t213 t214 t215).bind fun bt246 => ((line_Same.f k t238 (([(⟨t227, (⟨t228, t229⟩ : S22), t230, (⟨t231, t232, t233⟩ : S24)⟩ : S26), (⟨t209, (⟨t210, t211⟩ : S22), t212, (⟨t213, t214, t215⟩ : S24)⟩ : S26), (⟨bt246.1, (⟨bt246.2.1, bt246.2.2.1⟩ : S22), bt246.2.2.2.1, (⟨bt246.2.2.2.2.1, bt246.2.2.2.2.2.1, bt246.2.2.2.2.2.2⟩ : S24)⟩ : S26), (⟨t227, (⟨t228, t229⟩ : S22), t230, (⟨t231, t232, t233⟩ : S24)⟩ : S26)] : List (S26)))).bind fun t256 => (if t256 = true then (if t245 = true then ((line_Same.f k t242 (([(⟨t227, (⟨t228, t229⟩ : S22), t230, (⟨t231, t232, t233⟩ : S24)⟩ : S26), (⟨t227, (⟨t228, t229⟩ : S22), t230, (⟨t231, t232, t233⟩ : S24)⟩ : S26), (⟨t218, (⟨t219, t220⟩ : S22), t221, (⟨t222, t223, t224⟩ : S24)⟩ : S26), (⟨t227, (⟨t228, t229⟩ : S22), t230, (⟨t231, t232, t233⟩ : S24)⟩ : S26)] : List (S26)))).bind fun t260 => (if t260 = true then (some (t227 == 32)) else (some false))) else (some false)) else (some false)))) = some r := by rw [if_pos rfl] at H; exact H
    clear H
    have H := H1
    clear H1
    replace H := Option.bind_eq_some_iff.mp H
    obtain ⟨⟨t246, t247, t248, t249, t250, t251, t252⟩, A80, H⟩ := H
    replace H : ((line_Same.f k t238 (([(⟨t227, (⟨t228, t229⟩ : S22), t230, (⟨t231, t232, t233⟩ : S24)⟩ : S26), (⟨t209, (⟨t210, t211⟩ : S22), t212, (⟨t213, t214, t215⟩ : S24)⟩ : S26), (⟨t246, (⟨t247, t248⟩ : S22), t249, (⟨t250, t251, t252⟩ : S24)⟩ : S26), (⟨t227, (⟨t228, t229⟩ : S22), t230, (⟨t231, t232, t233⟩ : S24)⟩ : S26)] : List (S26)))).bind fun t256 => (if t256 = true then (if t245 = true then ((line_Same.f k t242 (([(⟨t227, (⟨t228, t229⟩ : S22), t230, (⟨t231, t232, t233⟩ : S24)⟩ : S26), (⟨t227, (⟨t228, t229⟩ : S22), t230, (⟨t231, t232, t233⟩ : S24)⟩ : S26), (⟨t218, (⟨t219, t220⟩ : S22), t221, (⟨t222, t223, t224⟩ : S24)⟩ : S26), (⟨t227, (⟨t228, t229⟩ : S22), t230, (⟨t231, t232, t233⟩ : S24)⟩ : S26)] : List (S26)))).bind fun t260 => (if t260 = true then (some (t227 == 32)) else (some false))) else (some false)) else (some false))) = some r := H
    have A8 := Aside0.mk A80
    clear A80
    obtain ⟨y253, hy253⟩ : ∃ y_ : List (S26), y_ = (([(⟨t227, (⟨t228, t229⟩ : S22), t230, (⟨t231, t232, t233⟩ : S24)⟩ : S26), (⟨t209, (⟨t210, t211⟩ : S22), t212, (⟨t213, t214, t215⟩ : S24)⟩ : S26), (⟨t246, (⟨t247, t248⟩ : S22), t249, (⟨t250, t251, t252⟩ : S24)⟩ : S26), (⟨t227, (⟨t228, t229⟩ : S22), t230, (⟨t231, t232, t233⟩ : S24)⟩ : S26)] : List (S26))) := ⟨_, rfl⟩
    replace H : ((line_Same.f k t238 y253).bind fun t256 => (if t256 = true then (if t245 = true then ((line_Same.f k t242 (([(⟨t227, (⟨t228, t229⟩ : S22), t230, (⟨t231, t232, t233⟩ : S24)⟩ : S26), (⟨t227, (⟨t228, t229⟩ : S22), t230, (⟨t231, t232, t233⟩ : S24)⟩ : S26), (⟨t218, (⟨t219, t220⟩ : S22), t221, (⟨t222, t223, t224⟩ : S24)⟩ : S26), (⟨t227, (⟨t228, t229⟩ : S22), t230, (⟨t231, t232, t233⟩ : S24)⟩ : S26)] : List (S26)))).bind fun t260 => (if t260 = true then (some (t227 == 32)) else (some false))) else (some false)) else (some false))) = some r := by first | (rw [hy253]; with_reducible exact H) | (have H2_ := (Option.bind_some _ _).symm.trans H; rw [hy253]; with_reducible exact H2_) | (have H2_ := (Option.bind_some _ _).symm.trans H; with_reducible exact H2_) | with_reducible exact H | (rw [hy253]; exact H) | exact H
    have Ny253 := Aside0.mk hy253
    clear hy253
    replace H := Option.bind_eq_some_iff.mp H
    obtain ⟨t256, A90, H⟩ := H
    replace H : (if t256 = true then (if t245 = true then ((line_Same.f k t242 (([(⟨t227, (⟨t228, t229⟩ : S22), t230, (⟨t231, t232, t233⟩ : S24)⟩ : S26), (⟨t227, (⟨t228, t229⟩ : S22), t230, (⟨t231, t232, t233⟩ : S24)⟩ : S26), (⟨t218, (⟨t219, t220⟩ : S22), t221, (⟨t222, t223, t224⟩ : S24)⟩ : S26), (⟨t227, (⟨t228, t229⟩ : S22), t230, (⟨t231, t232, t233⟩ : S24)⟩ : S26)] : List (S26)))).bind fun t260 => (if t260 = true then (some (t227 == 32)) else (some false))) else (some false)) else (some false)) = some r := H
    have A9 := Aside0.mk A90
    clear A90
    by_cases c10 : t256 = true
    · subst c10
      have H1 : (if t245 = true then ((line_Same.f k t242 (([(⟨t227, (⟨t228, t229⟩ : S22), t230, (⟨t231, t232, t233⟩ : S24)⟩ : S26), (⟨t227, (⟨t228, t229⟩ : S22), t230, (⟨t231, t232, t233⟩ : S24)⟩ : S26), (⟨t218, (⟨t219, t220⟩ : S22), t221, (⟨t222, t223, t224⟩ : S24)⟩ : S26), (⟨t227, (⟨t228, t229⟩ : S22), t230, (⟨t231, t232, t233⟩ : S24)⟩ : S26)] : List (S26)))).bind fun t260 => (if t260 = true then (some (t227 == 32)) else (some false))) else (some false)) = some r := by rw [if_pos rfl] at H; exact H
      clear H
      have H := H1
      clear H1
      by_cases c11 : t245 = true
      · subst c11
        have H1 : ((line_Same.f k t242 (([(⟨t227, (⟨t228, t229⟩ : S22), t230, (⟨t231, t232, t233⟩ : S24)⟩ : S26), (⟨t227, (⟨t228, t229⟩ : S22), t230, (⟨t231, t232, t233⟩ : S24)⟩ : S26), (⟨t218, (⟨t219, t220⟩ : S22), t221, (⟨t222, t223, t224⟩ : S24)⟩ : S26), (⟨t227, (⟨t228, t229⟩ : S22), t230, (⟨t231, t232, t233⟩ : S24)⟩ : S26)] : List (S26)))).bind fun t260 => (if t260 = true then (some (t227 == 32)) else (some false))) = some r := by rw [if_pos rfl] at H; exact H
        clear H
        have H := H1
        clear H1
        obtain ⟨y257, hy257⟩ : ∃ y_ : List (S26), y_ = (([(⟨t227, (⟨t228, t229⟩ : S22), t230, (⟨t231, t232, t233⟩ : S24)⟩ : S26), (⟨t227, (⟨t228, t229⟩ : S22), t230, (⟨t231, t232, t233⟩ : S24)⟩ : S26), (⟨t218, (⟨t219, t220⟩ : S22), t221, (⟨t222, t223, t224⟩ : S24)⟩ : S26), (⟨t227, (⟨t228, t229⟩ : S22), t230, (⟨t231, t232, t233⟩ : S24)⟩ : S26)] : List (S26))) := ⟨_, rfl⟩
        replace H : ((line_Same.f k t242 y257).bind fun t260 => (if t260 = true then (some (t227 == 32)) else (some false))) = some r := by first | (rw [hy257]; with_reducible exact H) | (have H2_ := (Option.bind_some _ _).symm.trans H; rw [hy257]; with_reducible exact H2_) | (have H2_ := (Option.bind_some _ _).symm.trans H; with_reducible exact H2_) | with_reducible exact H | (rw [hy257]; exact H) | exact H
        have Ny257 := Aside0.mk hy257
        clear hy257
        replace H := Option.bind_eq_some_iff.mp H
        obtain ⟨t260, A120, H⟩ := H
        replace H : (if t260 = true then (some (t227 == 32)) else (some false)) = some r := H
        have A12 := Aside0.mk A120
        clear A120
        by_cases c13 : t260 = true
        · subst c13
          have H1 : (some (t227 == 32)) = some r := by rw [if_pos rfl] at H; exact H
          clear H
          have H := H1
          clear H1
          obtain rfl := Option.some.inj H
          go_enter Try.func41, Try.ntmps41
          try go_wp2_with (first | ((with_reducible refine gate_callee (f := 14) rfl ?_); refine goesL_ (some 12) rfl rfl Try.func14 (by kernel_rfl) rfl #[.int .i32 12354, .agg #[.int .u8 0, .int .u8 0, .int .u8 0]] rfl (by (try simp only [List.map_toArray, List.map_cons, List.map_nil]); first | done | rfl | (simp only [List.length_drop, List.length_take]; rfl)) ?_; (with_reducible refine (cell_Of.calls 12354 0 0 0 t209 t210 t211 t212 t213 t214 t215 t216 _ A1.out).mono ?_); rintro e w14 ⟨rfl, hb⟩; refine ⟨_, rfl, ?_⟩; have n0_ := Aside0.mk (below_step (by repeat (first | (with_reducible first | exact HB.out | apply below_alloc | apply pw_below_drewN | apply below_drew1) | exact HB.out)) hb); clear HB; have HB := n0_; clear n0_; (try clear hb); (try clear hb2); (try clear hk); (try clear hi)) | ((with_reducible refine gate_dst (N := 1) rfl ?_); (try (refine gate_guard (by rfl) ?_; dsimp only)); refine box_event ?hg (N := 1) ?hd (cs := #[.int .i32 0, .int .i32 0, .int .i32 0, .int .u8 0, .int .u8 0, .int .u8 0, .int .u8 0]) (t := 26) ?hr ?_; (case hd => rfl); (case hg => rfl); (case hr => first | (go_simp; done) | (go_simp; rfl)); intro gb217 hg w15 hbox hb; have n0_ := Aside0.mk (below_step (by repeat (first | (with_reducible first | exact HB.out | apply below_alloc | apply pw_below_drewN | apply below_drew1) | exact HB.out)) hb); have n1_ := Aside0.mk (hbox); have n2_ := Aside0.mk ((by rw [hg]; exact (below_size (by repeat (first | (with_reducible first | exact HB.out | apply below_alloc | apply pw_below_drewN | apply below_drew1) | exact HB.out))) : w.heap.size ≤ gb217)); have n3_ := Aside0.mk ((by rw [hg]; exact (below_size (by repeat (first | (with_reducible first | exact HB.out | apply below_alloc | apply pw_below_drewN | apply below_drew1) | exact HB.out))) : w.heap.size ≤ gb217)); clear HB; have HB := n0_; have BK217 := n1_; have GW217 := n2_; have GE217 := n3_; clear n0_ n1_ n2_ n3_; clear hb hbox hg; have hcz16_0 : w15.cell? ⟨gb217, 0, none⟩ = some (.int .i32 0) := (blk_cell BK217.out 0).trans rfl; have hcz16_1 : w15.cell? ⟨gb217, 1, none⟩ = some (.int .i32 0) := (blk_cell BK217.out 1).trans rfl; have hcz16_2 : w15.cell? ⟨gb217, 2, none⟩ = some (.int .i32 0) := (blk_cell BK217.out 2).trans rfl; have hcz16_3 : w15.cell? ⟨gb217, 3, none⟩ = some (.int .u8 0) := (blk_cell BK217.out 3).trans rfl; have hcz16_4 : w15.cell? ⟨gb217, 4, none⟩ = some (.int .u8 0) := (blk_cell BK217.out 4).trans rfl; have hcz16_5 : w15.cell? ⟨gb217, 5, none⟩ = some (.int .u8 0) := (blk_cell BK217.out 5).trans rfl; have hcz16_6 : w15.cell? ⟨gb217, 6, none⟩ = some (.int .u8 0) := (blk_cell BK217.out 6).trans rfl; have hfz16_0 := blk_frozen BK217.out 0; have hfz16_1 := blk_frozen BK217.out 1; have hfz16_2 := blk_frozen BK217.out 2; have hfz16_3 := blk_frozen BK217.out 3; have hfz16_4 := blk_frozen BK217.out 4; have hfz16_5 := blk_frozen BK217.out 5; have hfz16_6 := blk_frozen BK217.out 6) | ((with_reducible refine gate_callee (f := 14) rfl ?_); refine goesL_ (some 17) rfl rfl Try.func14 (by kernel_rfl) rfl #[.int .i32 97, .agg #[.int .u8 0, .int .u8 0, .int .u8 0]] rfl (by (try simp only [List.map_toArray, List.map_cons, List.map_nil]); first | done | rfl | (simp only [List.length_drop, List.length_take]; rfl)) ?_; (with_reducible refine (cell_Of.calls 97 0 0 0 t218 t219 t220 t221 t222 t223 t224 t225 _ A2.out).mono ?_); rintro e w17 ⟨rfl, hb⟩; refine ⟨_, rfl, ?_⟩; have n0_ := Aside0.mk (blk_below (g := gb217) (o := .cells #[.int .i32 t209, .int .i32 t210, .int .i32 t211, .int .u8 t212, .int .u8 t213, .int .u8 t214, .int .u8 t215] 26 (0, 0)) (by (with_reducible repeat (first | refine blk_drewN ?_ _ | refine blk_drew ?_ | refine blk_alloc ?_ _)); refine blk_put (cs := #[.int .i32 t209, .int .i32 t210, .int .i32 t211, .int .u8 t212, .int .u8 t213, .int .u8 t214, .int .u8 0]) ?_ 6 _ rfl; (with_reducible repeat (first | refine blk_drewN ?_ _ | refine blk_drew ?_ | refine blk_alloc ?_ _)); refine blk_put (cs := #[.int .i32 t209, .int .i32 t210, .int .i32 t211, .int .u8 t212, .int .u8 t213, .int .u8 0, .int .u8 0]) ?_ 5 _ rfl; (with_reducible repeat (first | refine blk_drewN ?_ _ | refine blk_drew ?_ | refine blk_alloc ?_ _)); refine blk_put (cs := #[.int .i32 t209, .int .i32 t210, .int .i32 t211, .int .u8 t212, .int .u8 0, .int .u8 0, .int .u8 0]) ?_ 4 _ rfl; (with_reducible repeat (first | refine blk_drewN ?_ _ | refine blk_drew ?_ | refine blk_alloc ?_ _)); refine blk_put (cs := #[.int .i32 t209, .int .i32 t210, .int .i32 t211, .int .u8 0, .int .u8 0, .int .u8 0, .int .u8 0]) ?_ 3 _ rfl; (with_reducible repeat (first | refine blk_drewN ?_ _ | refine blk_drew ?_ | refine blk_alloc ?_ _)); refine blk_put (cs := #[.int .i32 t209, .int .i32 t210, .int .i32 0, .int .u8 0, .int .u8 0, .int .u8 0, .int .u8 0]) ?_ 2 _ rfl; (with_reducible repeat (first | refine blk_drewN ?_ _ | refine blk_drew ?_ | refine blk_alloc ?_ _)); refine blk_put (cs := #[.int .i32 t209, .int .i32 0, .int .i32 0, .int .u8 0, .int .u8 0, .int .u8 0, .int .u8 0]) ?_ 1 _ rfl; (with_reducible repeat (first | refine blk_drewN ?_ _ | refine blk_drew ?_ | refine blk_alloc ?_ _)); refine blk_put (cs := #[.int .i32 0, .int .i32 0, .int .i32 0, .int .u8 0, .int .u8 0, .int .u8 0, .int .u8 0]) ?_ 0 _ rfl; (with_reducible repeat (first | refine blk_drewN ?_ _ | refine blk_drew ?_ | refine blk_alloc ?_ _)); exact BK217.out) hb); have n1_ := Aside0.mk (below_step (by repeat (first | (with_reducible first | exact HB.out | apply below_alloc | apply pw_below_drewN | apply below_drew1 | refine below_set ?_ GE217.out) | exact HB.out)) hb); clear BK217; clear HB; have BK217 := n0_; have HB := n1_; clear n0_ n1_; (try clear hb); (try clear hb2); (try clear hk); (try clear hi)) | ((with_reducible refine gate_dst (N := 3) rfl ?_); (try (refine gate_guard (by rfl) ?_; dsimp only)); refine box_event ?hg (N := 3) ?hd (cs := #[.int .i32 0, .int .i32 0, .int .i32 0, .int .u8 0, .int .u8 0, .int .u8 0, .int .u8 0]) (t := 26) ?hr ?_; (case hd => rfl); (case hg => rfl); (case hr => first | (go_simp; done) | (go_simp; rfl)); intro gb226 hg w18 hbox hb; have n0_ := Aside0.mk (blk_below (g := gb217) (o := .cells #[.int .i32 t209, .int .i32 t210, .int .i32 t211, .int .u8 t212, .int .u8 t213, .int .u8 t214, .int .u8 t215] 26 (0, 0)) (by (with_reducible repeat (first | refine blk_drewN ?_ _ | refine blk_drew ?_ | refine blk_alloc ?_ _)); exact BK217.out) hb); have n1_ := Aside0.mk (below_step (by repeat (first | (with_reducible first | exact HB.out | apply below_alloc | apply pw_below_drewN | apply below_drew1 | refine below_set ?_ GE217.out) | exact HB.out)) hb); have n2_ := Aside0.mk (hbox); have n3_ := Aside0.mk ((by rw [hg]; exact (below_size (by repeat (first | (with_reducible first | exact HB.out | apply below_alloc | apply pw_below_drewN | apply below_drew1 | refine below_set ?_ GE217.out) | exact HB.out))) : w.heap.size ≤ gb226)); have n4_ := Aside0.mk ((by rw [hg]; exact (below_size (by repeat (first | (with_reducible first | exact HB.out | apply below_alloc | apply pw_below_drewN | apply below_drew1 | refine below_set ?_ GE217.out) | exact HB.out))) : w.heap.size ≤ gb226)); have n5_ := Aside0.mk ((by rw [hg]; exact Nat.ne_of_lt (blk_lt (g := gb217) (o := .cells #[.int .i32 t209, .int .i32 t210, .int .i32 t211, .int .u8 t212, .int .u8 t213, .int .u8 t214, .int .u8 t215] 26 (0, 0)) (by (with_reducible repeat (first | refine blk_drewN ?_ _ | refine blk_drew ?_ | refine blk_alloc ?_ _)); exact BK217.out)) : gb217 ≠ gb226)); have n6_ := Aside0.mk ((by rw [hg]; exact Nat.ne_of_gt (blk_lt (g := gb217) (o := .cells #[.int .i32 t209, .int .i32 t210, .int .i32 t211, .int .u8 t212, .int .u8 t213, .int .u8 t214, .int .u8 t215] 26 (0, 0)) (by (with_reducible repeat (first | refine blk_drewN ?_ _ | refine blk_drew ?_ | refine blk_alloc ?_ _)); exact BK217.out)) : gb226 ≠ gb217)); clear BK217; clear HB; have BK217 := n0_; have HB := n1_; have BK226 := n2_; have GW226 := n3_; have GE226 := n4_; have NB217_226 := n5_; have NB226_217 := n6_; clear n0_ n1_ n2_ n3_ n4_ n5_ n6_; clear hb hbox hg; have hnb19 := NB226_217.out; have hnc19 := NB217_226.out; have hcz20_0 : w18.cell? ⟨gb226, 0, none⟩ = some (.int .i32 0) := (blk_cell BK226.out 0).trans rfl; have hcz20_1 : w18.cell? ⟨gb226, 1, none⟩ = some (.int .i32 0) := (blk_cell BK226.out 1).trans rfl; have hcz20_2 : w18.cell? ⟨gb226, 2, none⟩ = some (.int .i32 0) := (blk_cell BK226.out 2).trans rfl; have hcz20_3 : w18.cell? ⟨gb226, 3, none⟩ = some (.int .u8 0) := (blk_cell BK226.out 3).trans rfl; have hcz20_4 : w18.cell? ⟨gb226, 4, none⟩ = some (.int .u8 0) := (blk_cell BK226.out 4).trans rfl; have hcz20_5 : w18.cell? ⟨gb226, 5, none⟩ = some (.int .u8 0) := (blk_cell BK226.out 5).trans rfl; have hcz20_6 : w18.cell? ⟨gb226, 6, none⟩ = some (.int .u8 0) := (blk_cell BK226.out 6).trans rfl; have hfz20_0 := blk_frozen BK226.out 0; have hfz20_1 := blk_frozen BK226.out 1; have hfz20_2 := blk_frozen BK226.out 2; have hfz20_3 := blk_frozen BK226.out 3; have hfz20_4 := blk_frozen BK226.out 4; have hfz20_5 := blk_frozen BK226.out 5; have hfz20_6 := blk_frozen BK226.out 6) | ((with_reducible refine gate_callee (f := 21) rfl ?_); refine goesL_ (some 21) rfl rfl Try.func21 (by kernel_rfl) rfl #[.agg #[.int .u8 0, .int .u8 0, .int .u8 0]] rfl (by (try simp only [List.map_toArray, List.map_cons, List.map_nil]); first | done | rfl | (simp only [List.length_drop, List.length_take]; rfl)) ?_; (with_reducible refine (cell_Blank.calls 0 0 0 t227 t228 t229 t230 t231 t232 t233 _ A3.out).mono ?_); rintro e w21 ⟨rfl, hb⟩; refine ⟨_, rfl, ?_⟩; have n0_ := Aside0.mk (blk_below (g := gb217) (o := .cells #[.int .i32 t209, .int .i32 t210, .int .i32 t211, .int .u8 t212, .int .u8 t213, .int .u8 t214, .int .u8 t215] 26 (0, 0)) (by (with_reducible repeat (first | refine blk_drewN ?_ _ | refine blk_drew ?_ | refine blk_alloc ?_ _)); refine blk_far ?_ NB217_226.out _; (with_reducible repeat (first | refine blk_drewN ?_ _ | refine blk_drew ?_ | refine blk_alloc ?_ _)); refine blk_far ?_ NB217_226.out _; (with_reducible repeat (first | refine blk_drewN ?_ _ | refine blk_drew ?_ | refine blk_alloc ?_ _)); refine blk_far ?_ NB217_226.out _; (with_reducible repeat (first | refine blk_drewN ?_ _ | refine blk_drew ?_ | refine blk_alloc ?_ _)); refine blk_far ?_ NB217_226.out _; (with_reducible repeat (first | refine blk_drewN ?_ _ | refine blk_drew ?_ | refine blk_alloc ?_ _)); refine blk_far ?_ NB217_226.out _; (with_reducible repeat (first | refine blk_drewN ?_ _ | refine blk_drew ?_ | refine blk_alloc ?_ _)); refine blk_far ?_ NB217_226.out _; (with_reducible repeat (first | refine blk_drewN ?_ _ | refine blk_drew ?_ | refine blk_alloc ?_ _)); refine blk_far ?_ NB217_226.out _; (with_reducible repeat (first | refine blk_drewN ?_ _ | refine blk_drew ?_ | refine blk_alloc ?_ _)); exact BK217.out) hb); have n1_ := Aside0.mk (blk_below (g := gb226) (o := .cells #[.int .i32 t218, .int .i32 t219, .int .i32 t220, .int .u8 t221, .int .u8 t222, .int .u8 t223, .int .u8 t224] 26 (0, 0)) (by (with_reducible repeat (first | refine blk_drewN ?_ _ | refine blk_drew ?_ | refine blk_alloc ?_ _)); refine blk_put (cs := #[.int .i32 t218, .int .i32 t219, .int .i32 t220, .int .u8 t221, .int .u8 t222, .int .u8 t223, .int .u8 0]) ?_ 6 _ rfl; (with_reducible repeat (first | refine blk_drewN ?_ _ | refine blk_drew ?_ | refine blk_alloc ?_ _)); refine blk_put (cs := #[.int .i32 t218, .int .i32 t219, .int .i32 t220, .int .u8 t221, .int .u8 t222, .int .u8 0, .int .u8 0]) ?_ 5 _ rfl; (with_reducible repeat (first | refine blk_drewN ?_ _ | refine blk_drew ?_ | refine blk_alloc ?_ _)); refine blk_put (cs := #[.int .i32 t218, .int .i32 t219, .int .i32 t220, .int .u8 t221, .int .u8 0, .int .u8 0, .int .u8 0]) ?_ 4 _ rfl; (with_reducible repeat (first | refine blk_drewN ?_ _ | refine blk_drew ?_ | refine blk_alloc ?_ _)); refine blk_put (cs := #[.int .i32 t218, .int .i32 t219, .int .i32 t220, .int .u8 0, .int .u8 0, .int .u8 0, .int .u8 0]) ?_ 3 _ rfl; (with_reducible repeat (first | refine blk_drewN ?_ _ | refine blk_drew ?_ | refine blk_alloc ?_ _)); refine blk_put (cs := #[.int .i32 t218, .int .i32 t219, .int .i32 0, .int .u8 0, .int .u8 0, .int .u8 0, .int .u8 0]) ?_ 2 _ rfl; (with_reducible repeat (first | refine blk_drewN ?_ _ | refine blk_drew ?_ | refine blk_alloc ?_ _)); refine blk_put (cs := #[.int .i32 t218, .int .i32 0, .int .i32 0, .int .u8 0, .int .u8 0, .int .u8 0, .int .u8 0]) ?_ 1 _ rfl; (with_reducible repeat (first | refine blk_drewN ?_ _ | refine blk_drew ?_ | refine blk_alloc ?_ _)); refine blk_put (cs := #[.int .i32 0, .int .i32 0, .int .i32 0, .int .u8 0, .int .u8 0, .int .u8 0, .int .u8 0]) ?_ 0 _ rfl; (with_reducible repeat (first | refine blk_drewN ?_ _ | refine blk_drew ?_ | refine blk_alloc ?_ _)); exact BK226.out) hb); have n2_ := Aside0.mk (below_step (by repeat (first | (with_reducible first | exact HB.out | apply below_alloc | apply pw_below_drewN | apply below_drew1 | refine below_set ?_ GE217.out | refine below_set ?_ GE226.out) | exact HB.out)) hb); clear BK217; clear BK226; clear HB; have BK217 := n0_; have BK226 := n1_; have HB := n2_; clear n0_ n1_ n2_; (try clear hb); (try clear hb2); (try clear hk); (try clear hi)) | ((with_reducible refine gate_dst (N := 5) rfl ?_); (try (refine gate_guard (by rfl) ?_; dsimp only)); refine box_event ?hg (N := 5) ?hd (cs := #[.int .i32 0, .int .i32 0, .int .i32 0, .int .u8 0, .int .u8 0, .int .u8 0, .int .u8 0]) (t := 26) ?hr ?_; (case hd => rfl); (case hg => rfl); (case hr => first | (go_simp; done) | (go_simp; rfl)); intro gb234 hg w22 hbox hb; have n0_ := Aside0.mk (blk_below (g := gb217) (o := .cells #[.int .i32 t209, .int .i32 t210, .int .i32 t211, .int .u8 t212, .int .u8 t213, .int .u8 t214, .int .u8 t215] 26 (0, 0)) (by (with_reducible repeat (first | refine blk_drewN ?_ _ | refine blk_drew ?_ | refine blk_alloc ?_ _)); exact BK217.out) hb); have n1_ := Aside0.mk (blk_below (g := gb226) (o := .cells #[.int .i32 t218, .int .i32 t219, .int .i32 t220, .int .u8 t221, .int .u8 t222, .int .u8 t223, .int .u8 t224] 26 (0, 0)) (by (with_reducible repeat (first | refine blk_drewN ?_ _ | refine blk_drew ?_ | refine blk_alloc ?_ _)); exact BK226.out) hb); have n2_ := Aside0.mk (below_step (by repeat (first | (with_reducible first | exact HB.out | apply below_alloc | apply pw_below_drewN | apply below_drew1 | refine below_set ?_ GE217.out | refine below_set ?_ GE226.out) | exact HB.out)) hb); have n3_ := Aside0.mk (hbox); have n4_ := Aside0.mk ((by rw [hg]; exact (below_size (by repeat (first | (with_reducible first | exact HB.out | apply below_alloc | apply pw_below_drewN | apply below_drew1 | refine below_set ?_ GE217.out | refine below_set ?_ GE226.out) | exact HB.out))) : w.heap.size ≤ gb234)); have n5_ := Aside0.mk ((by rw [hg]; exact (below_size (by repeat (first | (with_reducible first | exact HB.out | apply below_alloc | apply pw_below_drewN | apply below_drew1 | refine below_set ?_ GE217.out | refine below_set ?_ GE226.out) | exact HB.out))) : w.heap.size ≤ gb234)); have n6_ := Aside0.mk ((by rw [hg]; exact Nat.ne_of_lt (blk_lt (g := gb217) (o := .cells #[.int .i32 t209, .int .i32 t210, .int .i32 t211, .int .u8 t212, .int .u8 t213, .int .u8 t214, .int .u8 t215] 26 (0, 0)) (by (with_reducible repeat (first | refine blk_drewN ?_ _ | refine blk_drew ?_ | refine blk_alloc ?_ _)); exact BK217.out)) : gb217 ≠ gb234)); have n7_ := Aside0.mk ((by rw [hg]; exact Nat.ne_of_gt (blk_lt (g := gb217) (o := .cells #[.int .i32 t209, .int .i32 t210, .int .i32 t211, .int .u8 t212, .int .u8 t213, .int .u8 t214, .int .u8 t215] 26 (0, 0)) (by (with_reducible repeat (first | refine blk_drewN ?_ _ | refine blk_drew ?_ | refine blk_alloc ?_ _)); exact BK217.out)) : gb234 ≠ gb217)); have n8_ := Aside0.mk ((by rw [hg]; exact Nat.ne_of_lt (blk_lt (g := gb226) (o := .cells #[.int .i32 t218, .int .i32 t219, .int .i32 t220, .int .u8 t221, .int .u8 t222, .int .u8 t223, .int .u8 t224] 26 (0, 0)) (by (with_reducible repeat (first | refine blk_drewN ?_ _ | refine blk_drew ?_ | refine blk_alloc ?_ _)); exact BK226.out)) : gb226 ≠ gb234)); have n9_ := Aside0.mk ((by rw [hg]; exact Nat.ne_of_gt (blk_lt (g := gb226) (o := .cells #[.int .i32 t218, .int .i32 t219, .int .i32 t220, .int .u8 t221, .int .u8 t222, .int .u8 t223, .int .u8 t224] 26 (0, 0)) (by (with_reducible repeat (first | refine blk_drewN ?_ _ | refine blk_drew ?_ | refine blk_alloc ?_ _)); exact BK226.out)) : gb234 ≠ gb226)); clear BK217; clear BK226; clear HB; have BK217 := n0_; have BK226 := n1_; have HB := n2_; have BK234 := n3_; have GW234 := n4_; have GE234 := n5_; have NB217_234 := n6_; have NB234_217 := n7_; have NB226_234 := n8_; have NB234_226 := n9_; clear n0_ n1_ n2_ n3_ n4_ n5_ n6_ n7_ n8_ n9_; clear hb hbox hg; have hnb23 := NB234_217.out; have hnc23 := NB217_234.out; have hnb24 := NB234_226.out; have hnc24 := NB226_234.out; have hcz25_0 : w22.cell? ⟨gb234, 0, none⟩ = some (.int .i32 0) := (blk_cell BK234.out 0).trans rfl; have hcz25_1 : w22.cell? ⟨gb234, 1, none⟩ = some (.int .i32 0) := (blk_cell BK234.out 1).trans rfl; have hcz25_2 : w22.cell? ⟨gb234, 2, none⟩ = some (.int .i32 0) := (blk_cell BK234.out 2).trans rfl; have hcz25_3 : w22.cell? ⟨gb234, 3, none⟩ = some (.int .u8 0) := (blk_cell BK234.out 3).trans rfl; have hcz25_4 : w22.cell? ⟨gb234, 4, none⟩ = some (.int .u8 0) := (blk_cell BK234.out 4).trans rfl; have hcz25_5 : w22.cell? ⟨gb234, 5, none⟩ = some (.int .u8 0) := (blk_cell BK234.out 5).trans rfl; have hcz25_6 : w22.cell? ⟨gb234, 6, none⟩ = some (.int .u8 0) := (blk_cell BK234.out 6).trans rfl; have hfz25_0 := blk_frozen BK234.out 0; have hfz25_1 := blk_frozen BK234.out 1; have hfz25_2 := blk_frozen BK234.out 2; have hfz25_3 := blk_frozen BK234.out 3; have hfz25_4 := blk_frozen BK234.out 4; have hfz25_5 := blk_frozen BK234.out 5; have hfz25_6 := blk_frozen BK234.out 6))
          have n0_ : Aside0 ((((((((w22.setCell ⟨gb234, 0, none⟩ (.int .i32 t227)).setCell ⟨gb234, 1, none⟩ (.int .i32 t228)).setCell ⟨gb234, 2, none⟩ (.int .i32 t229)).setCell ⟨gb234, 3, none⟩ (.int .u8 t230)).setCell ⟨gb234, 4, none⟩ (.int .u8 t231)).setCell ⟨gb234, 5, none⟩ (.int .u8 t232)).setCell ⟨gb234, 6, none⟩ (.int .u8 t233)).heap[gb217]? = some (.cells #[.int .i32 t209, .int .i32 t210, .int .i32 t211, .int .u8 t212, .int .u8 t213, .int .u8 t214, .int .u8 t215] 26 (0, 0))) := ⟨by (with_reducible repeat (first | refine blk_drewN ?_ _ | refine blk_drew ?_ | refine blk_alloc ?_ _)); refine blk_far ?_ NB217_234.out _; (with_reducible repeat (first | refine blk_drewN ?_ _ | refine blk_drew ?_ | refine blk_alloc ?_ _)); refine blk_far ?_ NB217_234.out _; (with_reducible repeat (first | refine blk_drewN ?_ _ | refine blk_drew ?_ | refine blk_alloc ?_ _)); refine blk_far ?_ NB217_234.out _; (with_reducible repeat (first | refine blk_drewN ?_ _ | refine blk_drew ?_ | refine blk_alloc ?_ _)); refine blk_far ?_ NB217_234.out _; (with_reducible repeat (first | refine blk_drewN ?_ _ | refine blk_drew ?_ | refine blk_alloc ?_ _)); refine blk_far ?_ NB217_234.out _; (with_reducible repeat (first | refine blk_drewN ?_ _ | refine blk_drew ?_ | refine blk_alloc ?_ _)); refine blk_far ?_ NB217_234.out _; (with_reducible repeat (first | refine blk_drewN ?_ _ | refine blk_drew ?_ | refine blk_alloc ?_ _)); refine blk_far ?_ NB217_234.out _; (with_reducible repeat (first | refine blk_drewN ?_ _ | refine blk_drew ?_ | refine blk_alloc ?_ _)); exact BK217.out⟩
          have n1_ : Aside0 ((((((((w22.setCell ⟨gb234, 0, none⟩ (.int .i32 t227)).setCell ⟨gb234, 1, none⟩ (.int .i32 t228)).setCell ⟨gb234, 2, none⟩ (.int .i32 t229)).setCell ⟨gb234, 3, none⟩ (.int .u8 t230)).setCell ⟨gb234, 4, none⟩ (.int .u8 t231)).setCell ⟨gb234, 5, none⟩ (.int .u8 t232)).setCell ⟨gb234, 6, none⟩ (.int .u8 t233)).heap[gb226]? = some (.cells #[.int .i32 t218, .int .i32 t219, .int .i32 t220, .int .u8 t221, .int .u8 t222, .int .u8 t223, .int .u8 t224] 26 (0, 0))) := ⟨by (with_reducible repeat (first | refine blk_drewN ?_ _ | refine blk_drew ?_ | refine blk_alloc ?_ _)); refine blk_far ?_ NB226_234.out _; (with_reducible repeat (first | refine blk_drewN ?_ _ | refine blk_drew ?_ | refine blk_alloc ?_ _)); refine blk_far ?_ NB226_234.out _; (with_reducible repeat (first | refine blk_drewN ?_ _ | refine blk_drew ?_ | refine blk_alloc ?_ _)); refine blk_far ?_ NB226_234.out _; (with_reducible repeat (first | refine blk_drewN ?_ _ | refine blk_drew ?_ | refine blk_alloc ?_ _)); refine blk_far ?_ NB226_234.out _; (with_reducible repeat (first | refine blk_drewN ?_ _ | refine blk_drew ?_ | refine blk_alloc ?_ _)); refine blk_far ?_ NB226_234.out _; (with_reducible repeat (first | refine blk_drewN ?_ _ | refine blk_drew ?_ | refine blk_alloc ?_ _)); refine blk_far ?_ NB226_234.out _; (with_reducible repeat (first | refine blk_drewN ?_ _ | refine blk_drew ?_ | refine blk_alloc ?_ _)); refine blk_far ?_ NB226_234.out _; (with_reducible repeat (first | refine blk_drewN ?_ _ | refine blk_drew ?_ | refine blk_alloc ?_ _)); exact BK226.out⟩
          have n2_ : Aside0 ((((((((w22.setCell ⟨gb234, 0, none⟩ (.int .i32 t227)).setCell ⟨gb234, 1, none⟩ (.int .i32 t228)).setCell ⟨gb234, 2, none⟩ (.int .i32 t229)).setCell ⟨gb234, 3, none⟩ (.int .u8 t230)).setCell ⟨gb234, 4, none⟩ (.int .u8 t231)).setCell ⟨gb234, 5, none⟩ (.int .u8 t232)).setCell ⟨gb234, 6, none⟩ (.int .u8 t233)).heap[gb234]? = some (.cells #[.int .i32 t227, .int .i32 t228, .int .i32 t229, .int .u8 t230, .int .u8 t231, .int .u8 t232, .int .u8 t233] 26 (0, 0))) := ⟨by (with_reducible repeat (first | refine blk_drewN ?_ _ | refine blk_drew ?_ | refine blk_alloc ?_ _)); refine blk_put (cs := #[.int .i32 t227, .int .i32 t228, .int .i32 t229, .int .u8 t230, .int .u8 t231, .int .u8 t232, .int .u8 0]) ?_ 6 _ rfl; (with_reducible repeat (first | refine blk_drewN ?_ _ | refine blk_drew ?_ | refine blk_alloc ?_ _)); refine blk_put (cs := #[.int .i32 t227, .int .i32 t228, .int .i32 t229, .int .u8 t230, .int .u8 t231, .int .u8 0, .int .u8 0]) ?_ 5 _ rfl; (with_reducible repeat (first | refine blk_drewN ?_ _ | refine blk_drew ?_ | refine blk_alloc ?_ _)); refine blk_put (cs := #[.int .i32 t227, .int .i32 t228, .int .i32 t229, .int .u8 t230, .int .u8 0, .int .u8 0, .int .u8 0]) ?_ 4 _ rfl; (with_reducible repeat (first | refine blk_drewN ?_ _ | refine blk_drew ?_ | refine blk_alloc ?_ _)); refine blk_put (cs := #[.int .i32 t227, .int .i32 t228, .int .i32 t229, .int .u8 0, .int .u8 0, .int .u8 0, .int .u8 0]) ?_ 3 _ rfl; (with_reducible repeat (first | refine blk_drewN ?_ _ | refine blk_drew ?_ | refine blk_alloc ?_ _)); refine blk_put (cs := #[.int .i32 t227, .int .i32 t228, .int .i32 0, .int .u8 0, .int .u8 0, .int .u8 0, .int .u8 0]) ?_ 2 _ rfl; (with_reducible repeat (first | refine blk_drewN ?_ _ | refine blk_drew ?_ | refine blk_alloc ?_ _)); refine blk_put (cs := #[.int .i32 t227, .int .i32 0, .int .i32 0, .int .u8 0, .int .u8 0, .int .u8 0, .int .u8 0]) ?_ 1 _ rfl; (with_reducible repeat (first | refine blk_drewN ?_ _ | refine blk_drew ?_ | refine blk_alloc ?_ _)); refine blk_put (cs := #[.int .i32 0, .int .i32 0, .int .i32 0, .int .u8 0, .int .u8 0, .int .u8 0, .int .u8 0]) ?_ 0 _ rfl; (with_reducible repeat (first | refine blk_drewN ?_ _ | refine blk_drew ?_ | refine blk_alloc ?_ _)); exact BK234.out⟩
          have n3_ : Aside0 (Below w.heap.size w (((((((w22.setCell ⟨gb234, 0, none⟩ (.int .i32 t227)).setCell ⟨gb234, 1, none⟩ (.int .i32 t228)).setCell ⟨gb234, 2, none⟩ (.int .i32 t229)).setCell ⟨gb234, 3, none⟩ (.int .u8 t230)).setCell ⟨gb234, 4, none⟩ (.int .u8 t231)).setCell ⟨gb234, 5, none⟩ (.int .u8 t232)).setCell ⟨gb234, 6, none⟩ (.int .u8 t233))) := ⟨by repeat (first | (with_reducible first | exact HB.out | apply below_alloc | apply pw_below_drewN | apply below_drew1 | refine below_set ?_ GE217.out | refine below_set ?_ GE226.out | refine below_set ?_ GE234.out) | exact HB.out)⟩
          (try clear BK217)
          (try clear BK226)
          (try clear BK234)
          (try clear HB)
          generalize (((((((w22.setCell ⟨gb234, 0, none⟩ (.int .i32 t227)).setCell ⟨gb234, 1, none⟩ (.int .i32 t228)).setCell ⟨gb234, 2, none⟩ (.int .i32 t229)).setCell ⟨gb234, 3, none⟩ (.int .u8 t230)).setCell ⟨gb234, 4, none⟩ (.int .u8 t231)).setCell ⟨gb234, 5, none⟩ (.int .u8 t232)).setCell ⟨gb234, 6, none⟩ (.int .u8 t233)) = w26 at n0_ n1_ n2_ n3_ ⊢
          have BK217 := n0_
          have BK226 := n1_
          have BK234 := n2_
          have HB := n3_
          clear n0_ n1_ n2_ n3_
          have n0_ := Aside0.mk (blk_drew BK217.out)
          have n1_ := Aside0.mk (blk_drew BK226.out)
          have n2_ := Aside0.mk (blk_drew BK234.out)
          have n3_ := Aside0.mk (below_drew1 HB.out)
          clear BK217
          clear BK226
          clear BK234
          clear HB
          have BK217 := n0_
          have BK226 := n1_
          have BK234 := n2_
          have HB := n3_
          clear n0_ n1_ n2_ n3_
          refine start_ (n := 8) (S := fun w' => w'.cell? ⟨gb217, 0, none⟩ = some (.int .i32 t209) ∧ w'.cell? ⟨gb217, 1, none⟩ = some (.int .i32 t210) ∧ w'.cell? ⟨gb217, 2, none⟩ = some (.int .i32 t211) ∧ w'.cell? ⟨gb217, 3, none⟩ = some (.int .u8 t212) ∧ w'.cell? ⟨gb217, 4, none⟩ = some (.int .u8 t213) ∧ w'.cell? ⟨gb217, 5, none⟩ = some (.int .u8 t214) ∧ w'.cell? ⟨gb217, 6, none⟩ = some (.int .u8 t215)) (ds := []) #[false, false, false, false, false, false, false, false] (by kernel_rfl) rfl rfl ⟨(blk_cell BK217.out 0).trans rfl, (blk_cell BK217.out 1).trans rfl, (blk_cell BK217.out 2).trans rfl, (blk_cell BK217.out 3).trans rfl, (blk_cell BK217.out 4).trans rfl, (blk_cell BK217.out 5).trans rfl, (blk_cell BK217.out 6).trans rfl⟩ (fun hHeld => ?_); refine with_tabW prolepsislaw06_knownB.tab4 prolepsislaw06_knownB.bits4 (fun HT_ HW_ => ?_)
          generalize w26.drew = w27 at BK217 BK226 BK234 HB hHeld ⊢
          refine take_ (i := 1) (N := some 24) (v := ?_) (a' := ?_) #[false, true, false, false, false, false, false, false] rfl rfl (take_ofW HT_.out HW_.out (by kernel_rfl)) (fun _ _ _ h => h) (Or.inl ⟨by rfl, ?_⟩) hHeld ?_ ?_
          rotate_left
          · rintro w' ⟨s0, s1, s2, s3, s4, s5, s6⟩
            go_simp
            with_reducible rfl
          rotate_left
          · simp only [Act.put, List.setIfInBounds_toArray, List.set_cons_zero, List.set_cons_succ, i64_w, i32_w]
            rfl
          refine one_ (i := 0) (N := some 23) #[true, true, false, false, false, false, false, false] rfl rfl (one_of HT_.out (by kernel_rfl)) (by decide) (fun K hK => ?_)
          refine goes_ Try.func51 (by kernel_rfl) rfl #[.int .i64 4] (by rfl) rfl rfl (by (try simp only [List.map_toArray, List.map_cons, List.map_nil]); first | done | rfl | (simp only [List.length_drop, List.length_take]; rfl)) ?_
          with_reducible refine (line_New.calls k 4 t235 _ A4.out).mono ?_
          rintro e w28 ⟨v236, rfl, ho0, hb⟩
          refine ⟨_, rfl, ?_⟩
          have n0_ := Aside0.mk (Kd.R_lower (Kd.R_newB (Kd.R_newB (Kd.R_newB ho0 (g := gb217) (o := .cells #[.int .i32 t209, .int .i32 t210, .int .i32 t211, .int .u8 t212, .int .u8 t213, .int .u8 t214, .int .u8 t215] 26 (0, 0)) (by (with_reducible repeat (first | refine blk_drewN ?_ _ | refine blk_drew ?_ | refine blk_alloc ?_ _)); exact BK217.out)) (g := gb226) (o := .cells #[.int .i32 t218, .int .i32 t219, .int .i32 t220, .int .u8 t221, .int .u8 t222, .int .u8 t223, .int .u8 t224] 26 (0, 0)) (by (with_reducible repeat (first | refine blk_drewN ?_ _ | refine blk_drew ?_ | refine blk_alloc ?_ _)); exact BK226.out)) (g := gb234) (o := .cells #[.int .i32 t227, .int .i32 t228, .int .i32 t229, .int .u8 t230, .int .u8 t231, .int .u8 t232, .int .u8 t233] 26 (0, 0)) (by (with_reducible repeat (first | refine blk_drewN ?_ _ | refine blk_drew ?_ | refine blk_alloc ?_ _)); exact BK234.out)) (below_size (by repeat (first | (with_reducible first | exact HB.out | apply below_alloc | apply pw_below_drewN | apply below_drew1 | refine below_set ?_ GE217.out | refine below_set ?_ GE226.out | refine below_set ?_ GE234.out) | exact HB.out))))
          have n1_ := Aside0.mk (blk_below (g := gb217) (o := .cells #[.int .i32 t209, .int .i32 t210, .int .i32 t211, .int .u8 t212, .int .u8 t213, .int .u8 t214, .int .u8 t215] 26 (0, 0)) (by (with_reducible repeat (first | refine blk_drewN ?_ _ | refine blk_drew ?_ | refine blk_alloc ?_ _)); exact BK217.out) hb)
          have n2_ := Aside0.mk (blk_below (g := gb226) (o := .cells #[.int .i32 t218, .int .i32 t219, .int .i32 t220, .int .u8 t221, .int .u8 t222, .int .u8 t223, .int .u8 t224] 26 (0, 0)) (by (with_reducible repeat (first | refine blk_drewN ?_ _ | refine blk_drew ?_ | refine blk_alloc ?_ _)); exact BK226.out) hb)
          have n3_ := Aside0.mk (blk_below (g := gb234) (o := .cells #[.int .i32 t227, .int .i32 t228, .int .i32 t229, .int .u8 t230, .int .u8 t231, .int .u8 t232, .int .u8 t233] 26 (0, 0)) (by (with_reducible repeat (first | refine blk_drewN ?_ _ | refine blk_drew ?_ | refine blk_alloc ?_ _)); exact BK234.out) hb)
          have n4_ := Aside0.mk (below_step (by repeat (first | (with_reducible first | exact HB.out | apply below_alloc | apply pw_below_drewN | apply below_drew1 | refine below_set ?_ GE217.out | refine below_set ?_ GE226.out | refine below_set ?_ GE234.out) | exact HB.out)) hb)
          clear BK217
          clear BK226
          clear BK234
          clear HB
          have HO237 := n0_
          have BK217 := n1_
          have BK226 := n2_
          have BK234 := n3_
          have HB := n4_
          clear n0_ n1_ n2_ n3_ n4_
          (try clear hb)
          (try clear hb2)
          (try clear hk)
          (try clear hi)
          (try clear ho0)
          obtain ⟨Ao29, co29, eo29⟩ := Kd.R_slice HO237.out
          (first | subst eo29 | (injection eo29 with f1_ f2_ f3_; have f4_ := f1_.symm; have f5_ := f3_.symm; clear f1_ f2_ f3_; subst f4_; subst f5_))
          refine hK.out _ _ ⟨(blk_cell BK217.out 0).trans rfl, (blk_cell BK217.out 1).trans rfl, (blk_cell BK217.out 2).trans rfl, (blk_cell BK217.out 3).trans rfl, (blk_cell BK217.out 4).trans rfl, (blk_cell BK217.out 5).trans rfl, (blk_cell BK217.out 6).trans rfl⟩ (fun hHeld => ?_)
          clear hK K
          refine norm_ (a' := ?_) ?_ ?_
          rotate_left
          · show Act.put _ (some 23) _ = _
            simp only [Act.put, List.setIfInBounds_toArray, List.set_cons_zero, List.set_cons_succ, i64_w, i32_w]
            rfl
          refine one_ (i := 2) (N := some 25) #[true, true, true, false, false, false, false, false] rfl rfl (one_of HT_.out (by kernel_rfl)) (by decide) (fun K hK => ?_)
          refine goes_ Try.func37 (by kernel_rfl) rfl #[.slice Ao29 t235.length co29, .int .i64 1, .agg #[.int .i32 t209, .int .i32 t210, .int .i32 t211, .int .u8 t212, .int .u8 t213, .int .u8 t214, .int .u8 t215]] (by rfl) rfl rfl (by (try simp only [List.map_toArray, List.map_cons, List.map_nil]); first | done | rfl | (simp only [List.length_drop, List.length_take]; rfl)) ?_
          with_reducible refine (line_Put.calls k _ _ t235 1 t209 t210 t211 t212 t213 t214 t215 t238 true _ ?side1 ?side2 A5.out).mono ?_
          (case side1 => repeat (first | exact (Kd.R_reads' HO237.out).2.2 | (with_reducible refine Kd.C_alloc ?_ _) | (with_reducible refine Kd.C_drewN ?_ _) | (with_reducible refine Kd.C_drew ?_)))
          (case side2 => exact (Kd.R_reads' HO237.out).2.1)
          rintro e w30 ⟨v239, rfl, ho0, hb⟩
          refine ⟨_, rfl, ?_⟩
          have n0_ := Aside0.mk (Kd.R_elder' (by (with_reducible repeat (first | apply Kd.R_alloc | apply Kd.R_drewN | apply Kd.R_drew)); exact HO237.out) (Kd.R_base ho0) hb)
          have n1_ := Aside0.mk (Kd.R_lower (Kd.R_newB (Kd.R_newB (Kd.R_newB (Kd.R_new' ho0 (Kd.R_lt (by (with_reducible repeat (first | apply Kd.R_alloc | apply Kd.R_drewN | apply Kd.R_drew)); exact HO237.out))) (g := gb217) (o := .cells #[.int .i32 t209, .int .i32 t210, .int .i32 t211, .int .u8 t212, .int .u8 t213, .int .u8 t214, .int .u8 t215] 26 (0, 0)) (by (with_reducible repeat (first | refine blk_drewN ?_ _ | refine blk_drew ?_ | refine blk_alloc ?_ _)); exact BK217.out)) (g := gb226) (o := .cells #[.int .i32 t218, .int .i32 t219, .int .i32 t220, .int .u8 t221, .int .u8 t222, .int .u8 t223, .int .u8 t224] 26 (0, 0)) (by (with_reducible repeat (first | refine blk_drewN ?_ _ | refine blk_drew ?_ | refine blk_alloc ?_ _)); exact BK226.out)) (g := gb234) (o := .cells #[.int .i32 t227, .int .i32 t228, .int .i32 t229, .int .u8 t230, .int .u8 t231, .int .u8 t232, .int .u8 t233] 26 (0, 0)) (by (with_reducible repeat (first | refine blk_drewN ?_ _ | refine blk_drew ?_ | refine blk_alloc ?_ _)); exact BK234.out)) (below_size (by repeat (first | (with_reducible first | exact HB.out | apply below_alloc | apply pw_below_drewN | apply below_drew1 | refine below_set ?_ GE217.out | refine below_set ?_ GE226.out | refine below_set ?_ GE234.out) | exact HB.out))))
          have n2_ := Aside0.mk (blk_below (g := gb217) (o := .cells #[.int .i32 t209, .int .i32 t210, .int .i32 t211, .int .u8 t212, .int .u8 t213, .int .u8 t214, .int .u8 t215] 26 (0, 0)) (by (with_reducible repeat (first | refine blk_drewN ?_ _ | refine blk_drew ?_ | refine blk_alloc ?_ _)); exact BK217.out) hb)
          have n3_ := Aside0.mk (blk_below (g := gb226) (o := .cells #[.int .i32 t218, .int .i32 t219, .int .i32 t220, .int .u8 t221, .int .u8 t222, .int .u8 t223, .int .u8 t224] 26 (0, 0)) (by (with_reducible repeat (first | refine blk_drewN ?_ _ | refine blk_drew ?_ | refine blk_alloc ?_ _)); exact BK226.out) hb)
          have n4_ := Aside0.mk (blk_below (g := gb234) (o := .cells #[.int .i32 t227, .int .i32 t228, .int .i32 t229, .int .u8 t230, .int .u8 t231, .int .u8 t232, .int .u8 t233] 26 (0, 0)) (by (with_reducible repeat (first | refine blk_drewN ?_ _ | refine blk_drew ?_ | refine blk_alloc ?_ _)); exact BK234.out) hb)
          have n5_ := Aside0.mk (below_step (by repeat (first | (with_reducible first | exact HB.out | apply below_alloc | apply pw_below_drewN | apply below_drew1 | refine below_set ?_ GE217.out | refine below_set ?_ GE226.out | refine below_set ?_ GE234.out) | exact HB.out)) hb)
          clear HO237
          clear BK217
          clear BK226
          clear BK234
          clear HB
          have HO237 := n0_
          have HO240 := n1_
          have BK217 := n2_
          have BK226 := n3_
          have BK234 := n4_
          have HB := n5_
          clear n0_ n1_ n2_ n3_ n4_ n5_
          (try clear hb)
          (try clear hb2)
          (try clear hk)
          (try clear hi)
          (try clear ho0)
          refine hK.out _ _ ⟨(blk_cell BK217.out 0).trans rfl, (blk_cell BK217.out 1).trans rfl, (blk_cell BK217.out 2).trans rfl, (blk_cell BK217.out 3).trans rfl, (blk_cell BK217.out 4).trans rfl, (blk_cell BK217.out 5).trans rfl, (blk_cell BK217.out 6).trans rfl⟩ (fun hHeld => ?_)
          clear hK K
          refine norm_ (a' := ?_) ?_ ?_
          rotate_left
          · show Act.put _ (some 25) _ = _
            simp only [Act.put, List.setIfInBounds_toArray, List.set_cons_zero, List.set_cons_succ, i64_w, i32_w]
            rfl
          refine pure_ (i := 3) (N := some 22) (v := ?_) (a' := ?_) #[true, true, true, true, false, false, false, false] rfl rfl (any_of HT_.out (by kernel_rfl)) (fun _ _ _ h => h) (Or.inl ⟨by rfl, ?_⟩) ?_ ?_
          rotate_left
          · intro w'
            go_simp
            with_reducible rfl
          rotate_left
          · simp only [Act.put, List.setIfInBounds_toArray, List.set_cons_zero, List.set_cons_succ, i64_w, i32_w]
            rfl
          refine pure_ (i := 4) (N := some 26) (v := ?_) (a' := ?_) #[true, true, true, true, true, false, false, false] rfl rfl (any_of HT_.out (by kernel_rfl)) (fun _ _ _ h => h) (Or.inl ⟨by rfl, ?_⟩) ?_ ?_
          rotate_left
          · intro w'
            go_simp
            with_reducible rfl
          rotate_left
          · simp only [Act.put, List.setIfInBounds_toArray, List.set_cons_zero, List.set_cons_succ, i64_w, i32_w]
            rfl
          refine pure_ (i := 5) (N := some 27) (v := ?_) (a' := ?_) #[true, true, true, true, true, true, false, false] rfl rfl (any_of HT_.out (by kernel_rfl)) (fun _ _ _ h => h) (Or.inl ⟨by rfl, ?_⟩) ?_ ?_
          rotate_left
          · intro w'
            go_simp
            with_reducible rfl
          rotate_left
          · simp only [Act.put, List.setIfInBounds_toArray, List.set_cons_zero, List.set_cons_succ, i64_w, i32_w]
            rfl
          refine pure_ (i := 6) (N := some 6) (v := ?_) (a' := ?_) #[true, true, true, true, true, true, true, false] rfl rfl (any_of HT_.out (by kernel_rfl)) (fun _ _ _ h => h) (Or.inl ⟨by rfl, ?_⟩) ?_ ?_
          rotate_left
          · intro w'
            go_simp
            with_reducible rfl
          rotate_left
          · simp only [Act.put, List.setIfInBounds_toArray, List.set_cons_zero, List.set_cons_succ, i64_w, i32_w]
            rfl
          refine pure_ (i := 7) (N := some 7) (v := ?_) (a' := ?_) #[true, true, true, true, true, true, true, true] rfl rfl (any_of HT_.out (by kernel_rfl)) (fun _ _ _ h => h) (Or.inl ⟨by rfl, ?_⟩) ?_ ?_
          rotate_left
          · intro w'
            go_simp
            with_reducible rfl
          rotate_left
          · simp only [Act.put, List.setIfInBounds_toArray, List.set_cons_zero, List.set_cons_succ, i64_w, i32_w]
            rfl
          refine done_ (done_of HT_.out (by kernel_rfl)) ?_
          have hcz31_0 : w30.cell? ⟨gb226, 0, none⟩ = some (.int .i32 t218) := (blk_cell BK226.out 0).trans rfl
          have hcz31_1 : w30.cell? ⟨gb226, 1, none⟩ = some (.int .i32 t219) := (blk_cell BK226.out 1).trans rfl
          have hcz31_2 : w30.cell? ⟨gb226, 2, none⟩ = some (.int .i32 t220) := (blk_cell BK226.out 2).trans rfl
          have hcz31_3 : w30.cell? ⟨gb226, 3, none⟩ = some (.int .u8 t221) := (blk_cell BK226.out 3).trans rfl
          have hcz31_4 : w30.cell? ⟨gb226, 4, none⟩ = some (.int .u8 t222) := (blk_cell BK226.out 4).trans rfl
          have hcz31_5 : w30.cell? ⟨gb226, 5, none⟩ = some (.int .u8 t223) := (blk_cell BK226.out 5).trans rfl
          have hcz31_6 : w30.cell? ⟨gb226, 6, none⟩ = some (.int .u8 t224) := (blk_cell BK226.out 6).trans rfl
          have hfz31_0 := blk_frozen BK226.out 0
          have hfz31_1 := blk_frozen BK226.out 1
          have hfz31_2 := blk_frozen BK226.out 2
          have hfz31_3 := blk_frozen BK226.out 3
          have hfz31_4 := blk_frozen BK226.out 4
          have hfz31_5 := blk_frozen BK226.out 5
          have hfz31_6 := blk_frozen BK226.out 6
          obtain ⟨Ao32, co32, eo32⟩ := Kd.R_slice HO240.out
          subst eo32
          try go_wp2_with (first | ((with_reducible refine gate_callee (f := 37) rfl ?_); refine goesL_ (some 31) rfl rfl Try.func37 (by kernel_rfl) rfl #[.slice Ao32 t238.length co32, .int .i64 2, .agg #[.int .i32 t218, .int .i32 t219, .int .i32 t220, .int .u8 t221, .int .u8 t222, .int .u8 t223, .int .u8 t224]] rfl (by (try simp only [List.map_toArray, List.map_cons, List.map_nil]); first | done | rfl | (simp only [List.length_drop, List.length_take]; rfl)) ?_; (with_reducible refine (line_Put.calls k _ _ t238 2 t218 t219 t220 t221 t222 t223 t224 t242 true _ ?side1 ?side2 A6.out).mono ?_); (case side1 => repeat (first | exact (Kd.R_reads' HO240.out).2.2 | (with_reducible refine Kd.C_alloc ?_ _) | (with_reducible refine Kd.C_drewN ?_ _) | (with_reducible refine Kd.C_drew ?_))); (case side2 => exact (Kd.R_reads' HO240.out).2.1); rintro e w33 ⟨v243, rfl, ho0, hb⟩; refine ⟨_, rfl, ?_⟩; have n0_ := Aside0.mk (Kd.R_elder' (by (with_reducible repeat (first | apply Kd.R_alloc | apply Kd.R_drewN | apply Kd.R_drew)); exact HO237.out) (Kd.R_base ho0) hb); have n1_ := Aside0.mk (Kd.R_elder' (by (with_reducible repeat (first | apply Kd.R_alloc | apply Kd.R_drewN | apply Kd.R_drew)); exact HO240.out) (Kd.R_base ho0) hb); have n2_ := Aside0.mk (Kd.R_lower (Kd.R_newB (Kd.R_newB (Kd.R_newB (Kd.R_new' (Kd.R_new' ho0 (Kd.R_lt (by (with_reducible repeat (first | apply Kd.R_alloc | apply Kd.R_drewN | apply Kd.R_drew)); exact HO237.out))) (Kd.R_lt (by (with_reducible repeat (first | apply Kd.R_alloc | apply Kd.R_drewN | apply Kd.R_drew)); exact HO240.out))) (g := gb217) (o := .cells #[.int .i32 t209, .int .i32 t210, .int .i32 t211, .int .u8 t212, .int .u8 t213, .int .u8 t214, .int .u8 t215] 26 (0, 0)) (by (with_reducible repeat (first | refine blk_drewN ?_ _ | refine blk_drew ?_ | refine blk_alloc ?_ _)); exact BK217.out)) (g := gb226) (o := .cells #[.int .i32 t218, .int .i32 t219, .int .i32 t220, .int .u8 t221, .int .u8 t222, .int .u8 t223, .int .u8 t224] 26 (0, 0)) (by (with_reducible repeat (first | refine blk_drewN ?_ _ | refine blk_drew ?_ | refine blk_alloc ?_ _)); exact BK226.out)) (g := gb234) (o := .cells #[.int .i32 t227, .int .i32 t228, .int .i32 t229, .int .u8 t230, .int .u8 t231, .int .u8 t232, .int .u8 t233] 26 (0, 0)) (by (with_reducible repeat (first | refine blk_drewN ?_ _ | refine blk_drew ?_ | refine blk_alloc ?_ _)); exact BK234.out)) (below_size (by repeat (first | (with_reducible first | exact HB.out | apply below_alloc | apply pw_below_drewN | apply below_drew1 | refine below_set ?_ GE217.out | refine below_set ?_ GE226.out | refine below_set ?_ GE234.out) | exact HB.out)))); have n3_ := Aside0.mk (blk_below (g := gb217) (o := .cells #[.int .i32 t209, .int .i32 t210, .int .i32 t211, .int .u8 t212, .int .u8 t213, .int .u8 t214, .int .u8 t215] 26 (0, 0)) (by (with_reducible repeat (first | refine blk_drewN ?_ _ | refine blk_drew ?_ | refine blk_alloc ?_ _)); exact BK217.out) hb); have n4_ := Aside0.mk (blk_below (g := gb226) (o := .cells #[.int .i32 t218, .int .i32 t219, .int .i32 t220, .int .u8 t221, .int .u8 t222, .int .u8 t223, .int .u8 t224] 26 (0, 0)) (by (with_reducible repeat (first | refine blk_drewN ?_ _ | refine blk_drew ?_ | refine blk_alloc ?_ _)); exact BK226.out) hb); have n5_ := Aside0.mk (blk_below (g := gb234) (o := .cells #[.int .i32 t227, .int .i32 t228, .int .i32 t229, .int .u8 t230, .int .u8 t231, .int .u8 t232, .int .u8 t233] 26 (0, 0)) (by (with_reducible repeat (first | refine blk_drewN ?_ _ | refine blk_drew ?_ | refine blk_alloc ?_ _)); exact BK234.out) hb); have n6_ := Aside0.mk (below_step (by repeat (first | (with_reducible first | exact HB.out | apply below_alloc | apply pw_below_drewN | apply below_drew1 | refine below_set ?_ GE217.out | refine below_set ?_ GE226.out | refine below_set ?_ GE234.out) | exact HB.out)) hb); clear HO237; clear HO240; clear BK217; clear BK226; clear BK234; clear HB; have HO237 := n0_; have HO240 := n1_; have HO244 := n2_; have BK217 := n3_; have BK226 := n4_; have BK234 := n5_; have HB := n6_; clear n0_ n1_ n2_ n3_ n4_ n5_ n6_; (try clear hb); (try clear hb2); (try clear hk); (try clear hi); (try clear ho0)))
          have n0_ := Aside0.mk (Kd.R_drew HO237.out)
          have n1_ := Aside0.mk (Kd.R_drew HO240.out)
          have n2_ := Aside0.mk (Kd.R_drew HO244.out)
          have n3_ := Aside0.mk (blk_drew BK217.out)
          have n4_ := Aside0.mk (blk_drew BK226.out)
          have n5_ := Aside0.mk (blk_drew BK234.out)
          have n6_ := Aside0.mk (below_drew1 HB.out)
          clear HO237
          clear HO240
          clear HO244
          clear BK217
          clear BK226
          clear BK234
          clear HB
          have HO237 := n0_
          have HO240 := n1_
          have HO244 := n2_
          have BK217 := n3_
          have BK226 := n4_
          have BK234 := n5_
          have HB := n6_
          clear n0_ n1_ n2_ n3_ n4_ n5_ n6_
          refine start_ (n := 29) (S := fun w' => w'.cell? ⟨gb234, 0, none⟩ = some (.int .i32 t227) ∧ w'.cell? ⟨gb234, 1, none⟩ = some (.int .i32 t228) ∧ w'.cell? ⟨gb234, 2, none⟩ = some (.int .i32 t229) ∧ w'.cell? ⟨gb234, 3, none⟩ = some (.int .u8 t230) ∧ w'.cell? ⟨gb234, 4, none⟩ = some (.int .u8 t231) ∧ w'.cell? ⟨gb234, 5, none⟩ = some (.int .u8 t232) ∧ w'.cell? ⟨gb234, 6, none⟩ = some (.int .u8 t233) ∧ w'.cell? ⟨gb217, 0, none⟩ = some (.int .i32 t209) ∧ w'.cell? ⟨gb217, 1, none⟩ = some (.int .i32 t210) ∧ w'.cell? ⟨gb217, 2, none⟩ = some (.int .i32 t211) ∧ w'.cell? ⟨gb217, 3, none⟩ = some (.int .u8 t212) ∧ w'.cell? ⟨gb217, 4, none⟩ = some (.int .u8 t213) ∧ w'.cell? ⟨gb217, 5, none⟩ = some (.int .u8 t214) ∧ w'.cell? ⟨gb217, 6, none⟩ = some (.int .u8 t215) ∧ w'.cell? ⟨gb226, 0, none⟩ = some (.int .i32 t218) ∧ w'.cell? ⟨gb226, 1, none⟩ = some (.int .i32 t219) ∧ w'.cell? ⟨gb226, 2, none⟩ = some (.int .i32 t220) ∧ w'.cell? ⟨gb226, 3, none⟩ = some (.int .u8 t221) ∧ w'.cell? ⟨gb226, 4, none⟩ = some (.int .u8 t222) ∧ w'.cell? ⟨gb226, 5, none⟩ = some (.int .u8 t223) ∧ w'.cell? ⟨gb226, 6, none⟩ = some (.int .u8 t224)) (ds := []) #[false, false, false, false, false, false, false, false, false, false, false, false, false, false, false, false, false, false, false, false, false, false, false, false, false, false, false, false, false] (by kernel_rfl) rfl rfl ⟨(blk_cell BK234.out 0).trans rfl, (blk_cell BK234.out 1).trans rfl, (blk_cell BK234.out 2).trans rfl, (blk_cell BK234.out 3).trans rfl, (blk_cell BK234.out 4).trans rfl, (blk_cell BK234.out 5).trans rfl, (blk_cell BK234.out 6).trans rfl, (blk_cell BK217.out 0).trans rfl, (blk_cell BK217.out 1).trans rfl, (blk_cell BK217.out 2).trans rfl, (blk_cell BK217.out 3).trans rfl, (blk_cell BK217.out 4).trans rfl, (blk_cell BK217.out 5).trans rfl, (blk_cell BK217.out 6).trans rfl, (blk_cell BK226.out 0).trans rfl, (blk_cell BK226.out 1).trans rfl, (blk_cell BK226.out 2).trans rfl, (blk_cell BK226.out 3).trans rfl, (blk_cell BK226.out 4).trans rfl, (blk_cell BK226.out 5).trans rfl, (blk_cell BK226.out 6).trans rfl⟩ (fun hHeld => ?_); refine with_tabW prolepsislaw06_knownB.tab6 prolepsislaw06_knownB.bits6 (fun HT_ HW_ => ?_)
          generalize w33.drew = w34 at HO237 HO240 HO244 BK217 BK226 BK234 HB hHeld ⊢
          refine pure_ (i := 0) (N := some 34) (v := ?_) (a' := ?_) #[true, false, false, false, false, false, false, false, false, false, false, false, false, false, false, false, false, false, false, false, false, false, false, false, false, false, false, false, false] rfl rfl (any_of HT_.out (by kernel_rfl)) (fun _ _ _ h => h) (Or.inl ⟨by rfl, ?_⟩) ?_ ?_
          rotate_left
          · intro w'
            go_simp
            with_reducible rfl
          rotate_left
          · simp only [Act.put, List.setIfInBounds_toArray, List.set_cons_zero, List.set_cons_succ, i64_w, i32_w]
            rfl
          refine pure_ (i := 1) (N := some 35) (v := ?_) (a' := ?_) #[true, true, false, false, false, false, false, false, false, false, false, false, false, false, false, false, false, false, false, false, false, false, false, false, false, false, false, false, false] rfl rfl (any_of HT_.out (by kernel_rfl)) (fun _ _ _ h => h) (Or.inl ⟨by rfl, ?_⟩) ?_ ?_
          rotate_left
          · intro w'
            go_simp
            with_reducible rfl
          rotate_left
          · simp only [Act.put, List.setIfInBounds_toArray, List.set_cons_zero, List.set_cons_succ, i64_w, i32_w]
            rfl
          refine pure_ (i := 2) (N := some 36) (v := ?_) (a' := ?_) #[true, true, true, false, false, false, false, false, false, false, false, false, false, false, false, false, false, false, false, false, false, false, false, false, false, false, false, false, false] rfl rfl (any_of HT_.out (by kernel_rfl)) (fun _ _ _ h => h) (Or.inl ⟨by rfl, ?_⟩) ?_ ?_
          rotate_left
          · intro w'
            go_simp
            with_reducible rfl
          rotate_left
          · simp only [Act.put, List.setIfInBounds_toArray, List.set_cons_zero, List.set_cons_succ, i64_w, i32_w]
            rfl
          refine take_ (i := 3) (N := some 37) (v := ?_) (a' := ?_) #[true, true, true, true, false, false, false, false, false, false, false, false, false, false, false, false, false, false, false, false, false, false, false, false, false, false, false, false, false] rfl rfl (take_ofW HT_.out HW_.out (by kernel_rfl)) (fun _ _ _ h => h) (Or.inl ⟨by rfl, ?_⟩) hHeld ?_ ?_
          rotate_left
          · rintro w' ⟨s0, s1, s2, s3, s4, s5, s6, s7, s8, s9, s10, s11, s12, s13, s14, s15, s16, s17, s18, s19, s20⟩
            go_simp
            with_reducible rfl
          rotate_left
          · simp only [Act.put, List.setIfInBounds_toArray, List.set_cons_zero, List.set_cons_succ, i64_w, i32_w]
            rfl
          refine take_ (i := 4) (N := some 38) (v := ?_) (a' := ?_) #[true, true, true, true, true, false, false, false, false, false, false, false, false, false, false, false, false, false, false, false, false, false, false, false, false, false, false, false, false] rfl rfl (take_ofW HT_.out HW_.out (by kernel_rfl)) (fun _ _ _ h => h) (Or.inl ⟨by rfl, ?_⟩) hHeld ?_ ?_
          rotate_left
          · rintro w' ⟨s0, s1, s2, s3, s4, s5, s6, s7, s8, s9, s10, s11, s12, s13, s14, s15, s16, s17, s18, s19, s20⟩
            go_simp
            with_reducible rfl
          rotate_left
          · simp only [Act.put, List.setIfInBounds_toArray, List.set_cons_zero, List.set_cons_succ, i64_w, i32_w]
            rfl
          refine take_ (i := 5) (N := some 39) (v := ?_) (a' := ?_) #[true, true, true, true, true, true, false, false, false, false, false, false, false, false, false, false, false, false, false, false, false, false, false, false, false, false, false, false, false] rfl rfl (take_ofW HT_.out HW_.out (by kernel_rfl)) (fun _ _ _ h => h) (Or.inl ⟨by rfl, ?_⟩) hHeld ?_ ?_
          rotate_left
          · rintro w' ⟨s0, s1, s2, s3, s4, s5, s6, s7, s8, s9, s10, s11, s12, s13, s14, s15, s16, s17, s18, s19, s20⟩
            go_simp
            with_reducible rfl
          rotate_left
          · simp only [Act.put, List.setIfInBounds_toArray, List.set_cons_zero, List.set_cons_succ, i64_w, i32_w]
            rfl
          refine take_ (i := 7) (N := some 41) (v := ?_) (a' := ?_) #[true, true, true, true, true, true, false, true, false, false, false, false, false, false, false, false, false, false, false, false, false, false, false, false, false, false, false, false, false] rfl rfl (take_ofW HT_.out HW_.out (by kernel_rfl)) (fun _ _ _ h => h) (Or.inl ⟨by rfl, ?_⟩) hHeld ?_ ?_
          rotate_left
          · rintro w' ⟨s0, s1, s2, s3, s4, s5, s6, s7, s8, s9, s10, s11, s12, s13, s14, s15, s16, s17, s18, s19, s20⟩
            go_simp
            with_reducible rfl
          rotate_left
          · simp only [Act.put, List.setIfInBounds_toArray, List.set_cons_zero, List.set_cons_succ, i64_w, i32_w]
            rfl
          refine one_ (i := 6) (N := some 40) #[true, true, true, true, true, true, true, true, false, false, false, false, false, false, false, false, false, false, false, false, false, false, false, false, false, false, false, false, false] rfl rfl (one_of HT_.out (by kernel_rfl)) (by decide) (fun K hK => ?_)
          refine goes_ Try.func23 (by kernel_rfl) rfl #[.agg #[.int .i32 t209, .int .i32 t210, .int .i32 t211, .int .u8 t212, .int .u8 t213, .int .u8 t214, .int .u8 t215]] (by rfl) rfl rfl (by (try simp only [List.map_toArray, List.map_cons, List.map_nil]); first | done | rfl | (simp only [List.length_drop, List.length_take]; rfl)) ?_
          with_reducible refine (cell_Rest.calls t209 t210 t211 t212 t213 t214 t215 t246 t247 t248 t249 t250 t251 t252 _ A8.out).mono ?_
          rintro e w35 ⟨rfl, hb⟩
          refine ⟨_, rfl, ?_⟩
          have n0_ := Aside0.mk (Kd.R_below (by (with_reducible repeat (first | apply Kd.R_alloc | apply Kd.R_drewN | apply Kd.R_drew)); exact HO237.out) hb)
          have n1_ := Aside0.mk (Kd.R_below (by (with_reducible repeat (first | apply Kd.R_alloc | apply Kd.R_drewN | apply Kd.R_drew)); exact HO240.out) hb)
          have n2_ := Aside0.mk (Kd.R_below (by (with_reducible repeat (first | apply Kd.R_alloc | apply Kd.R_drewN | apply Kd.R_drew)); exact HO244.out) hb)
          have n3_ := Aside0.mk (blk_below (g := gb217) (o := .cells #[.int .i32 t209, .int .i32 t210, .int .i32 t211, .int .u8 t212, .int .u8 t213, .int .u8 t214, .int .u8 t215] 26 (0, 0)) (by (with_reducible repeat (first | refine blk_drewN ?_ _ | refine blk_drew ?_ | refine blk_alloc ?_ _)); exact BK217.out) hb)
          have n4_ := Aside0.mk (blk_below (g := gb226) (o := .cells #[.int .i32 t218, .int .i32 t219, .int .i32 t220, .int .u8 t221, .int .u8 t222, .int .u8 t223, .int .u8 t224] 26 (0, 0)) (by (with_reducible repeat (first | refine blk_drewN ?_ _ | refine blk_drew ?_ | refine blk_alloc ?_ _)); exact BK226.out) hb)
          have n5_ := Aside0.mk (blk_below (g := gb234) (o := .cells #[.int .i32 t227, .int .i32 t228, .int .i32 t229, .int .u8 t230, .int .u8 t231, .int .u8 t232, .int .u8 t233] 26 (0, 0)) (by (with_reducible repeat (first | refine blk_drewN ?_ _ | refine blk_drew ?_ | refine blk_alloc ?_ _)); exact BK234.out) hb)
          have n6_ := Aside0.mk (below_step (by repeat (first | (with_reducible first | exact HB.out | apply below_alloc | apply pw_below_drewN | apply below_drew1 | refine below_set ?_ GE217.out | refine below_set ?_ GE226.out | refine below_set ?_ GE234.out) | exact HB.out)) hb)
          clear HO237
          clear HO240
          clear HO244
          clear BK217
          clear BK226
          clear BK234
          clear HB
          have HO237 := n0_
          have HO240 := n1_
          have HO244 := n2_
          have BK217 := n3_
          have BK226 := n4_
          have BK234 := n5_
          have HB := n6_
          clear n0_ n1_ n2_ n3_ n4_ n5_ n6_
          (try clear hb)
          (try clear hb2)
          (try clear hk)
          (try clear hi)
          refine hK.out _ _ ⟨(blk_cell BK234.out 0).trans rfl, (blk_cell BK234.out 1).trans rfl, (blk_cell BK234.out 2).trans rfl, (blk_cell BK234.out 3).trans rfl, (blk_cell BK234.out 4).trans rfl, (blk_cell BK234.out 5).trans rfl, (blk_cell BK234.out 6).trans rfl, (blk_cell BK217.out 0).trans rfl, (blk_cell BK217.out 1).trans rfl, (blk_cell BK217.out 2).trans rfl, (blk_cell BK217.out 3).trans rfl, (blk_cell BK217.out 4).trans rfl, (blk_cell BK217.out 5).trans rfl, (blk_cell BK217.out 6).trans rfl, (blk_cell BK226.out 0).trans rfl, (blk_cell BK226.out 1).trans rfl, (blk_cell BK226.out 2).trans rfl, (blk_cell BK226.out 3).trans rfl, (blk_cell BK226.out 4).trans rfl, (blk_cell BK226.out 5).trans rfl, (blk_cell BK226.out 6).trans rfl⟩ (fun hHeld => ?_)
          clear hK K
          refine norm_ (a' := ?_) ?_ ?_
          rotate_left
          · show Act.put _ (some 40) _ = _
            simp only [Act.put, List.setIfInBounds_toArray, List.set_cons_zero, List.set_cons_succ, i64_w, i32_w]
            rfl
          refine one_ (i := 8) (N := some 42) #[true, true, true, true, true, true, true, true, true, false, false, false, false, false, false, false, false, false, false, false, false, false, false, false, false, false, false, false, false] rfl rfl (one_of HT_.out (by kernel_rfl)) (by decide) (fun K hK => ?_)
          refine Kd.R_lit_step k26 _ 26 ?hg (N := 42) ?hd (xs := ([(⟨t227, (⟨t228, t229⟩ : S22), t230, (⟨t231, t232, t233⟩ : S24)⟩ : S26), (⟨t209, (⟨t210, t211⟩ : S22), t212, (⟨t213, t214, t215⟩ : S24)⟩ : S26), (⟨t246, (⟨t247, t248⟩ : S22), t249, (⟨t250, t251, t252⟩ : S24)⟩ : S26), (⟨t227, (⟨t228, t229⟩ : S22), t230, (⟨t231, t232, t233⟩ : S24)⟩ : S26)] : List (S26))) (inner := [.int .i32 t227, .int .i32 t228, .int .i32 t229, .int .u8 t230, .int .u8 t231, .int .u8 t232, .int .u8 t233, .int .i32 t209, .int .i32 t210, .int .i32 t211, .int .u8 t212, .int .u8 t213, .int .u8 t214, .int .u8 t215, .int .i32 t246, .int .i32 t247, .int .i32 t248, .int .u8 t249, .int .u8 t250, .int .u8 t251, .int .u8 t252, .int .i32 t227, .int .i32 t228, .int .i32 t229, .int .u8 t230, .int .u8 t231, .int .u8 t232, .int .u8 t233]) (ok := fun _ => True) (okp := fun _ => True) ?hr ?hp (fun _ hk => hk) trivial (Below.refl _ _) (Nat.le_refl _) (by simp) ?_; (case hd => rfl); (case hg => rfl); (case hr => first | (go_simp; done) | (go_simp; rfl)); (case hp => exact (Reps.c7 (show Kd.M k26 _ _ _ (⟨t227, (⟨t228, t229⟩ : S22), t230, (⟨t231, t232, t233⟩ : S24)⟩ : S26) [.int .i32 t227, .int .i32 t228, .int .i32 t229, .int .u8 t230, .int .u8 t231, .int .u8 t232, .int .u8 t233] from (k26_mkM _ _ _ (⟨t227, (⟨t228, t229⟩ : S22), t230, (⟨t231, t232, t233⟩ : S24)⟩ : S26) )) (Reps.c7 (show Kd.M k26 _ _ _ (⟨t209, (⟨t210, t211⟩ : S22), t212, (⟨t213, t214, t215⟩ : S24)⟩ : S26) [.int .i32 t209, .int .i32 t210, .int .i32 t211, .int .u8 t212, .int .u8 t213, .int .u8 t214, .int .u8 t215] from (k26_mkM _ _ _ (⟨t209, (⟨t210, t211⟩ : S22), t212, (⟨t213, t214, t215⟩ : S24)⟩ : S26) )) (Reps.c7 (show Kd.M k26 _ _ _ (⟨t246, (⟨t247, t248⟩ : S22), t249, (⟨t250, t251, t252⟩ : S24)⟩ : S26) [.int .i32 t246, .int .i32 t247, .int .i32 t248, .int .u8 t249, .int .u8 t250, .int .u8 t251, .int .u8 t252] from (k26_mkM _ _ _ (⟨t246, (⟨t247, t248⟩ : S22), t249, (⟨t250, t251, t252⟩ : S24)⟩ : S26) )) (Reps.c7 (show Kd.M k26 _ _ _ (⟨t227, (⟨t228, t229⟩ : S22), t230, (⟨t231, t232, t233⟩ : S24)⟩ : S26) [.int .i32 t227, .int .i32 t228, .int .i32 t229, .int .u8 t230, .int .u8 t231, .int .u8 t232, .int .u8 t233] from (k26_mkM _ _ _ (⟨t227, (⟨t228, t229⟩ : S22), t230, (⟨t231, t232, t233⟩ : S24)⟩ : S26) )) (Reps.none _ _))))))
          intro v254 w36 ho37 hb hg_ hnew_
          clear hg_ hnew_
          (first | rw [← Ny253.out] at ho37 | (simp only [Int.reduceToNat] at ho37; rw [← Ny253.out] at ho37))
          have n0_ := Aside0.mk (Kd.R_elder' (by (with_reducible repeat (first | apply Kd.R_alloc | apply Kd.R_drewN | apply Kd.R_drew)); exact HO237.out) (Kd.R_base ho37) hb)
          have n1_ := Aside0.mk (Kd.R_elder' (by (with_reducible repeat (first | apply Kd.R_alloc | apply Kd.R_drewN | apply Kd.R_drew)); exact HO240.out) (Kd.R_base ho37) hb)
          have n2_ := Aside0.mk (Kd.R_elder' (by (with_reducible repeat (first | apply Kd.R_alloc | apply Kd.R_drewN | apply Kd.R_drew)); exact HO244.out) (Kd.R_base ho37) hb)
          have n3_ := Aside0.mk (Kd.R_lower (Kd.R_newB (Kd.R_newB (Kd.R_newB (Kd.R_new' (Kd.R_new' (Kd.R_new' ho37 (Kd.R_lt (by (with_reducible repeat (first | apply Kd.R_alloc | apply Kd.R_drewN | apply Kd.R_drew)); exact HO237.out))) (Kd.R_lt (by (with_reducible repeat (first | apply Kd.R_alloc | apply Kd.R_drewN | apply Kd.R_drew)); exact HO240.out))) (Kd.R_lt (by (with_reducible repeat (first | apply Kd.R_alloc | apply Kd.R_drewN | apply Kd.R_drew)); exact HO244.out))) (g := gb217) (o := .cells #[.int .i32 t209, .int .i32 t210, .int .i32 t211, .int .u8 t212, .int .u8 t213, .int .u8 t214, .int .u8 t215] 26 (0, 0)) (by (with_reducible repeat (first | refine blk_drewN ?_ _ | refine blk_drew ?_ | refine blk_alloc ?_ _)); exact BK217.out)) (g := gb226) (o := .cells #[.int .i32 t218, .int .i32 t219, .int .i32 t220, .int .u8 t221, .int .u8 t222, .int .u8 t223, .int .u8 t224] 26 (0, 0)) (by (with_reducible repeat (first | refine blk_drewN ?_ _ | refine blk_drew ?_ | refine blk_alloc ?_ _)); exact BK226.out)) (g := gb234) (o := .cells #[.int .i32 t227, .int .i32 t228, .int .i32 t229, .int .u8 t230, .int .u8 t231, .int .u8 t232, .int .u8 t233] 26 (0, 0)) (by (with_reducible repeat (first | refine blk_drewN ?_ _ | refine blk_drew ?_ | refine blk_alloc ?_ _)); exact BK234.out)) (below_size (by repeat (first | (with_reducible first | exact HB.out | apply below_alloc | apply pw_below_drewN | apply below_drew1 | refine below_set ?_ GE217.out | refine below_set ?_ GE226.out | refine below_set ?_ GE234.out) | exact HB.out))))
          have n4_ := Aside0.mk (blk_below (g := gb217) (o := .cells #[.int .i32 t209, .int .i32 t210, .int .i32 t211, .int .u8 t212, .int .u8 t213, .int .u8 t214, .int .u8 t215] 26 (0, 0)) (by (with_reducible repeat (first | refine blk_drewN ?_ _ | refine blk_drew ?_ | refine blk_alloc ?_ _)); exact BK217.out) hb)
          have n5_ := Aside0.mk (blk_below (g := gb226) (o := .cells #[.int .i32 t218, .int .i32 t219, .int .i32 t220, .int .u8 t221, .int .u8 t222, .int .u8 t223, .int .u8 t224] 26 (0, 0)) (by (with_reducible repeat (first | refine blk_drewN ?_ _ | refine blk_drew ?_ | refine blk_alloc ?_ _)); exact BK226.out) hb)
          have n6_ := Aside0.mk (blk_below (g := gb234) (o := .cells #[.int .i32 t227, .int .i32 t228, .int .i32 t229, .int .u8 t230, .int .u8 t231, .int .u8 t232, .int .u8 t233] 26 (0, 0)) (by (with_reducible repeat (first | refine blk_drewN ?_ _ | refine blk_drew ?_ | refine blk_alloc ?_ _)); exact BK234.out) hb)
          have n7_ := Aside0.mk (below_step (by repeat (first | (with_reducible first | exact HB.out | apply below_alloc | apply pw_below_drewN | apply below_drew1 | refine below_set ?_ GE217.out | refine below_set ?_ GE226.out | refine below_set ?_ GE234.out) | exact HB.out)) hb)
          clear HO237
          clear HO240
          clear HO244
          clear BK217
          clear BK226
          clear BK234
          clear HB
          have HO237 := n0_
          have HO240 := n1_
          have HO244 := n2_
          have HO255 := n3_
          have BK217 := n4_
          have BK226 := n5_
          have BK234 := n6_
          have HB := n7_
          clear n0_ n1_ n2_ n3_ n4_ n5_ n6_ n7_
          clear hb ho37
          obtain ⟨Ao38, co38, eo38⟩ := Kd.R_slice HO255.out
          (first | subst eo38 | (injection eo38 with f1_ f2_ f3_; have f4_ := f1_.symm; have f5_ := f3_.symm; clear f1_ f2_ f3_; subst f4_; subst f5_))
          refine hK.out _ _ ⟨(blk_cell BK234.out 0).trans rfl, (blk_cell BK234.out 1).trans rfl, (blk_cell BK234.out 2).trans rfl, (blk_cell BK234.out 3).trans rfl, (blk_cell BK234.out 4).trans rfl, (blk_cell BK234.out 5).trans rfl, (blk_cell BK234.out 6).trans rfl, (blk_cell BK217.out 0).trans rfl, (blk_cell BK217.out 1).trans rfl, (blk_cell BK217.out 2).trans rfl, (blk_cell BK217.out 3).trans rfl, (blk_cell BK217.out 4).trans rfl, (blk_cell BK217.out 5).trans rfl, (blk_cell BK217.out 6).trans rfl, (blk_cell BK226.out 0).trans rfl, (blk_cell BK226.out 1).trans rfl, (blk_cell BK226.out 2).trans rfl, (blk_cell BK226.out 3).trans rfl, (blk_cell BK226.out 4).trans rfl, (blk_cell BK226.out 5).trans rfl, (blk_cell BK226.out 6).trans rfl⟩ (fun hHeld => ?_)
          clear hK K
          refine norm_ (a' := ?_) ?_ ?_
          rotate_left
          · show Act.put _ (some 42) _ = _
            simp only [Act.put, List.setIfInBounds_toArray, List.set_cons_zero, List.set_cons_succ, i64_w, i32_w]
            rfl
          refine one_ (i := 9) (N := some 43) #[true, true, true, true, true, true, true, true, true, true, false, false, false, false, false, false, false, false, false, false, false, false, false, false, false, false, false, false, false] rfl rfl (one_of HT_.out (by kernel_rfl)) (by decide) (fun K hK => ?_)
          refine goes_ Try.func38 (by kernel_rfl) rfl #[.slice Ao32 t238.length co32, .slice Ao38 y253.length co38] (by rfl) rfl rfl (by (try simp only [List.map_toArray, List.map_cons, List.map_nil]); first | done | rfl | (simp only [List.length_drop, List.length_take]; rfl)) ?_
          with_reducible refine (line_Same.calls k _ _ t238 _ _ y253 true _ ?side1 ?side2 ?side3 ?side4 A9.out).mono ?_
          (case side1 => repeat (first | exact (Kd.R_reads' HO240.out).2.2 | (with_reducible refine Kd.C_alloc ?_ _) | (with_reducible refine Kd.C_drewN ?_ _) | (with_reducible refine Kd.C_drew ?_)))
          (case side2 => exact (Kd.R_reads' HO240.out).2.1)
          (case side3 => repeat (first | exact (Kd.R_reads' HO255.out).2.2 | (with_reducible refine Kd.C_alloc ?_ _) | (with_reducible refine Kd.C_drewN ?_ _) | (with_reducible refine Kd.C_drew ?_)))
          (case side4 => exact (Kd.R_reads' HO255.out).2.1)
          rintro e w' ⟨rfl, ⟨nd, rfl⟩⟩
          refine ⟨_, rfl, ?_⟩
          refine hK.out _ _ ⟨(blk_cell BK234.out 0).trans rfl, (blk_cell BK234.out 1).trans rfl, (blk_cell BK234.out 2).trans rfl, (blk_cell BK234.out 3).trans rfl, (blk_cell BK234.out 4).trans rfl, (blk_cell BK234.out 5).trans rfl, (blk_cell BK234.out 6).trans rfl, (blk_cell BK217.out 0).trans rfl, (blk_cell BK217.out 1).trans rfl, (blk_cell BK217.out 2).trans rfl, (blk_cell BK217.out 3).trans rfl, (blk_cell BK217.out 4).trans rfl, (blk_cell BK217.out 5).trans rfl, (blk_cell BK217.out 6).trans rfl, (blk_cell BK226.out 0).trans rfl, (blk_cell BK226.out 1).trans rfl, (blk_cell BK226.out 2).trans rfl, (blk_cell BK226.out 3).trans rfl, (blk_cell BK226.out 4).trans rfl, (blk_cell BK226.out 5).trans rfl, (blk_cell BK226.out 6).trans rfl⟩ (fun hHeld => ?_)
          clear hK K
          refine norm_ (a' := ?_) ?_ ?_
          rotate_left
          · show Act.put _ (some 43) _ = _
            simp only [Act.put, List.setIfInBounds_toArray, List.set_cons_zero, List.set_cons_succ, i64_w, i32_w]
            rfl
          refine pure_ (i := 10) (N := some 44) (v := ?_) (a' := ?_) #[true, true, true, true, true, true, true, true, true, true, true, false, false, false, false, false, false, false, false, false, false, false, false, false, false, false, false, false, false] rfl rfl (any_of HT_.out (by kernel_rfl)) (fun _ _ _ h => h) (Or.inl ⟨by rfl, ?_⟩) ?_ ?_
          rotate_left
          · intro w'
            go_simp
            with_reducible rfl
          rotate_left
          · simp only [Act.put, List.setIfInBounds_toArray, List.set_cons_zero, List.set_cons_succ, i64_w, i32_w]
            rfl
          refine pure_ (i := 11) (N := some 45) (v := ?_) (a' := ?_) #[true, true, true, true, true, true, true, true, true, true, true, true, false, false, false, false, false, false, false, false, false, false, false, false, false, false, false, false, false] rfl rfl (any_of HT_.out (by kernel_rfl)) (fun _ _ _ h => h) (Or.inl ⟨by rfl, ?_⟩) ?_ ?_
          rotate_left
          · intro w'
            go_simp
            with_reducible rfl
          rotate_left
          · simp only [Act.put, List.setIfInBounds_toArray, List.set_cons_zero, List.set_cons_succ, i64_w, i32_w]
            rfl
          refine pure_ (i := 12) (N := some 46) (v := ?_) (a' := ?_) #[true, true, true, true, true, true, true, true, true, true, true, true, true, false, false, false, false, false, false, false, false, false, false, false, false, false, false, false, false] rfl rfl (any_of HT_.out (by kernel_rfl)) (fun _ _ _ h => h) (Or.inl ⟨by rfl, ?_⟩) ?_ ?_
          rotate_left
          · intro w'
            go_simp
            with_reducible rfl
          rotate_left
          · simp only [Act.put, List.setIfInBounds_toArray, List.set_cons_zero, List.set_cons_succ, i64_w, i32_w]
            rfl
          refine pure_ (i := 13) (N := some 47) (v := ?_) (a' := ?_) #[true, true, true, true, true, true, true, true, true, true, true, true, true, true, false, false, false, false, false, false, false, false, false, false, false, false, false, false, false] rfl rfl (any_of HT_.out (by kernel_rfl)) (fun _ _ _ h => h) (Or.inl ⟨by rfl, ?_⟩) ?_ ?_
          rotate_left
          · intro w'
            go_simp
            with_reducible rfl
          rotate_left
          · simp only [Act.put, List.setIfInBounds_toArray, List.set_cons_zero, List.set_cons_succ, i64_w, i32_w]
            rfl
          refine pure_ (i := 14) (N := some 48) (v := ?_) (a' := ?_) #[true, true, true, true, true, true, true, true, true, true, true, true, true, true, true, false, false, false, false, false, false, false, false, false, false, false, false, false, false] rfl rfl (any_of HT_.out (by kernel_rfl)) (fun _ _ _ h => h) (Or.inl ⟨by rfl, ?_⟩) ?_ ?_
          rotate_left
          · intro w'
            go_simp
            with_reducible rfl
          rotate_left
          · simp only [Act.put, List.setIfInBounds_toArray, List.set_cons_zero, List.set_cons_succ, i64_w, i32_w]
            rfl
          refine pure_ (i := 15) (N := some 49) (v := ?_) (a' := ?_) #[true, true, true, true, true, true, true, true, true, true, true, true, true, true, true, true, false, false, false, false, false, false, false, false, false, false, false, false, false] rfl rfl (any_of HT_.out (by kernel_rfl)) (fun _ _ _ h => h) (Or.inl ⟨by rfl, ?_⟩) ?_ ?_
          rotate_left
          · intro w'
            go_simp
            with_reducible rfl
          rotate_left
          · simp only [Act.put, List.setIfInBounds_toArray, List.set_cons_zero, List.set_cons_succ, i64_w, i32_w]
            rfl
          refine take_ (i := 16) (N := some 50) (v := ?_) (a' := ?_) #[true, true, true, true, true, true, true, true, true, true, true, true, true, true, true, true, true, false, false, false, false, false, false, false, false, false, false, false, false] rfl rfl (take_ofW HT_.out HW_.out (by kernel_rfl)) (fun _ _ _ h => h) (Or.inl ⟨by rfl, ?_⟩) hHeld ?_ ?_
          rotate_left
          · rintro w' ⟨s0, s1, s2, s3, s4, s5, s6, s7, s8, s9, s10, s11, s12, s13, s14, s15, s16, s17, s18, s19, s20⟩
            go_simp
            with_reducible rfl
          rotate_left
          · simp only [Act.put, List.setIfInBounds_toArray, List.set_cons_zero, List.set_cons_succ, i64_w, i32_w]
            rfl
          refine take_ (i := 17) (N := some 51) (v := ?_) (a' := ?_) #[true, true, true, true, true, true, true, true, true, true, true, true, true, true, true, true, true, true, false, false, false, false, false, false, false, false, false, false, false] rfl rfl (take_ofW HT_.out HW_.out (by kernel_rfl)) (fun _ _ _ h => h) (Or.inl ⟨by rfl, ?_⟩) hHeld ?_ ?_
          rotate_left
          · rintro w' ⟨s0, s1, s2, s3, s4, s5, s6, s7, s8, s9, s10, s11, s12, s13, s14, s15, s16, s17, s18, s19, s20⟩
            go_simp
            with_reducible rfl
          rotate_left
          · simp only [Act.put, List.setIfInBounds_toArray, List.set_cons_zero, List.set_cons_succ, i64_w, i32_w]
            rfl
          refine take_ (i := 18) (N := some 52) (v := ?_) (a' := ?_) #[true, true, true, true, true, true, true, true, true, true, true, true, true, true, true, true, true, true, true, false, false, false, false, false, false, false, false, false, false] rfl rfl (take_ofW HT_.out HW_.out (by kernel_rfl)) (fun _ _ _ h => h) (Or.inl ⟨by rfl, ?_⟩) hHeld ?_ ?_
          rotate_left
          · rintro w' ⟨s0, s1, s2, s3, s4, s5, s6, s7, s8, s9, s10, s11, s12, s13, s14, s15, s16, s17, s18, s19, s20⟩
            go_simp
            with_reducible rfl
          rotate_left
          · simp only [Act.put, List.setIfInBounds_toArray, List.set_cons_zero, List.set_cons_succ, i64_w, i32_w]
            rfl
          refine take_ (i := 19) (N := some 53) (v := ?_) (a' := ?_) #[true, true, true, true, true, true, true, true, true, true, true, true, true, true, true, true, true, true, true, true, false, false, false, false, false, false, false, false, false] rfl rfl (take_ofW HT_.out HW_.out (by kernel_rfl)) (fun _ _ _ h => h) (Or.inl ⟨by rfl, ?_⟩) hHeld ?_ ?_
          rotate_left
          · rintro w' ⟨s0, s1, s2, s3, s4, s5, s6, s7, s8, s9, s10, s11, s12, s13, s14, s15, s16, s17, s18, s19, s20⟩
            go_simp
            with_reducible rfl
          rotate_left
          · simp only [Act.put, List.setIfInBounds_toArray, List.set_cons_zero, List.set_cons_succ, i64_w, i32_w]
            rfl
          refine one_ (i := 20) (N := some 54) #[true, true, true, true, true, true, true, true, true, true, true, true, true, true, true, true, true, true, true, true, true, false, false, false, false, false, false, false, false] rfl rfl (one_of HT_.out (by kernel_rfl)) (by decide) (fun K hK => ?_)
          refine Kd.R_lit_step k26 _ 26 ?hg (N := 54) ?hd (xs := ([(⟨t227, (⟨t228, t229⟩ : S22), t230, (⟨t231, t232, t233⟩ : S24)⟩ : S26), (⟨t227, (⟨t228, t229⟩ : S22), t230, (⟨t231, t232, t233⟩ : S24)⟩ : S26), (⟨t218, (⟨t219, t220⟩ : S22), t221, (⟨t222, t223, t224⟩ : S24)⟩ : S26), (⟨t227, (⟨t228, t229⟩ : S22), t230, (⟨t231, t232, t233⟩ : S24)⟩ : S26)] : List (S26))) (inner := [.int .i32 t227, .int .i32 t228, .int .i32 t229, .int .u8 t230, .int .u8 t231, .int .u8 t232, .int .u8 t233, .int .i32 t227, .int .i32 t228, .int .i32 t229, .int .u8 t230, .int .u8 t231, .int .u8 t232, .int .u8 t233, .int .i32 t218, .int .i32 t219, .int .i32 t220, .int .u8 t221, .int .u8 t222, .int .u8 t223, .int .u8 t224, .int .i32 t227, .int .i32 t228, .int .i32 t229, .int .u8 t230, .int .u8 t231, .int .u8 t232, .int .u8 t233]) (ok := fun _ => True) (okp := fun _ => True) ?hr ?hp (fun _ hk => hk) trivial (Below.refl _ _) (Nat.le_refl _) (by simp) ?_; (case hd => rfl); (case hg => rfl); (case hr => first | (go_simp; done) | (go_simp; rfl)); (case hp => exact (Reps.c7 (show Kd.M k26 _ _ _ (⟨t227, (⟨t228, t229⟩ : S22), t230, (⟨t231, t232, t233⟩ : S24)⟩ : S26) [.int .i32 t227, .int .i32 t228, .int .i32 t229, .int .u8 t230, .int .u8 t231, .int .u8 t232, .int .u8 t233] from (k26_mkM _ _ _ (⟨t227, (⟨t228, t229⟩ : S22), t230, (⟨t231, t232, t233⟩ : S24)⟩ : S26) )) (Reps.c7 (show Kd.M k26 _ _ _ (⟨t227, (⟨t228, t229⟩ : S22), t230, (⟨t231, t232, t233⟩ : S24)⟩ : S26) [.int .i32 t227, .int .i32 t228, .int .i32 t229, .int .u8 t230, .int .u8 t231, .int .u8 t232, .int .u8 t233] from (k26_mkM _ _ _ (⟨t227, (⟨t228, t229⟩ : S22), t230, (⟨t231, t232, t233⟩ : S24)⟩ : S26) )) (Reps.c7 (show Kd.M k26 _ _ _ (⟨t218, (⟨t219, t220⟩ : S22), t221, (⟨t222, t223, t224⟩ : S24)⟩ : S26) [.int .i32 t218, .int .i32 t219, .int .i32 t220, .int .u8 t221, .int .u8 t222, .int .u8 t223, .int .u8 t224] from (k26_mkM _ _ _ (⟨t218, (⟨t219, t220⟩ : S22), t221, (⟨t222, t223, t224⟩ : S24)⟩ : S26) )) (Reps.c7 (show Kd.M k26 _ _ _ (⟨t227, (⟨t228, t229⟩ : S22), t230, (⟨t231, t232, t233⟩ : S24)⟩ : S26) [.int .i32 t227, .int .i32 t228, .int .i32 t229, .int .u8 t230, .int .u8 t231, .int .u8 t232, .int .u8 t233] from (k26_mkM _ _ _ (⟨t227, (⟨t228, t229⟩ : S22), t230, (⟨t231, t232, t233⟩ : S24)⟩ : S26) )) (Reps.none _ _))))))
          intro v258 w39 ho40 hb hg_ hnew_
          clear hg_ hnew_
          (first | rw [← Ny257.out] at ho40 | (simp only [Int.reduceToNat] at ho40; rw [← Ny257.out] at ho40))
          have n0_ := Aside0.mk (Kd.R_elder' (by (with_reducible repeat (first | apply Kd.R_alloc | apply Kd.R_drewN | apply Kd.R_drew)); exact HO237.out) (Kd.R_base ho40) hb)
          have n1_ := Aside0.mk (Kd.R_elder' (by (with_reducible repeat (first | apply Kd.R_alloc | apply Kd.R_drewN | apply Kd.R_drew)); exact HO240.out) (Kd.R_base ho40) hb)
          have n2_ := Aside0.mk (Kd.R_elder' (by (with_reducible repeat (first | apply Kd.R_alloc | apply Kd.R_drewN | apply Kd.R_drew)); exact HO244.out) (Kd.R_base ho40) hb)
          have n3_ := Aside0.mk (Kd.R_elder' (by (with_reducible repeat (first | apply Kd.R_alloc | apply Kd.R_drewN | apply Kd.R_drew)); exact HO255.out) (Kd.R_base ho40) hb)
          have n4_ := Aside0.mk (Kd.R_lower (Kd.R_newB (Kd.R_newB (Kd.R_newB (Kd.R_new' (Kd.R_new' (Kd.R_new' (Kd.R_new' ho40 (Kd.R_lt (by (with_reducible repeat (first | apply Kd.R_alloc | apply Kd.R_drewN | apply Kd.R_drew)); exact HO237.out))) (Kd.R_lt (by (with_reducible repeat (first | apply Kd.R_alloc | apply Kd.R_drewN | apply Kd.R_drew)); exact HO240.out))) (Kd.R_lt (by (with_reducible repeat (first | apply Kd.R_alloc | apply Kd.R_drewN | apply Kd.R_drew)); exact HO244.out))) (Kd.R_lt (by (with_reducible repeat (first | apply Kd.R_alloc | apply Kd.R_drewN | apply Kd.R_drew)); exact HO255.out))) (g := gb217) (o := .cells #[.int .i32 t209, .int .i32 t210, .int .i32 t211, .int .u8 t212, .int .u8 t213, .int .u8 t214, .int .u8 t215] 26 (0, 0)) (by (with_reducible repeat (first | refine blk_drewN ?_ _ | refine blk_drew ?_ | refine blk_alloc ?_ _)); exact BK217.out)) (g := gb226) (o := .cells #[.int .i32 t218, .int .i32 t219, .int .i32 t220, .int .u8 t221, .int .u8 t222, .int .u8 t223, .int .u8 t224] 26 (0, 0)) (by (with_reducible repeat (first | refine blk_drewN ?_ _ | refine blk_drew ?_ | refine blk_alloc ?_ _)); exact BK226.out)) (g := gb234) (o := .cells #[.int .i32 t227, .int .i32 t228, .int .i32 t229, .int .u8 t230, .int .u8 t231, .int .u8 t232, .int .u8 t233] 26 (0, 0)) (by (with_reducible repeat (first | refine blk_drewN ?_ _ | refine blk_drew ?_ | refine blk_alloc ?_ _)); exact BK234.out)) (below_size (by repeat (first | (with_reducible first | exact HB.out | apply below_alloc | apply pw_below_drewN | apply below_drew1 | refine below_set ?_ GE217.out | refine below_set ?_ GE226.out | refine below_set ?_ GE234.out) | exact HB.out))))
          have n5_ := Aside0.mk (blk_below (g := gb217) (o := .cells #[.int .i32 t209, .int .i32 t210, .int .i32 t211, .int .u8 t212, .int .u8 t213, .int .u8 t214, .int .u8 t215] 26 (0, 0)) (by (with_reducible repeat (first | refine blk_drewN ?_ _ | refine blk_drew ?_ | refine blk_alloc ?_ _)); exact BK217.out) hb)
          have n6_ := Aside0.mk (blk_below (g := gb226) (o := .cells #[.int .i32 t218, .int .i32 t219, .int .i32 t220, .int .u8 t221, .int .u8 t222, .int .u8 t223, .int .u8 t224] 26 (0, 0)) (by (with_reducible repeat (first | refine blk_drewN ?_ _ | refine blk_drew ?_ | refine blk_alloc ?_ _)); exact BK226.out) hb)
          have n7_ := Aside0.mk (blk_below (g := gb234) (o := .cells #[.int .i32 t227, .int .i32 t228, .int .i32 t229, .int .u8 t230, .int .u8 t231, .int .u8 t232, .int .u8 t233] 26 (0, 0)) (by (with_reducible repeat (first | refine blk_drewN ?_ _ | refine blk_drew ?_ | refine blk_alloc ?_ _)); exact BK234.out) hb)
          have n8_ := Aside0.mk (below_step (by repeat (first | (with_reducible first | exact HB.out | apply below_alloc | apply pw_below_drewN | apply below_drew1 | refine below_set ?_ GE217.out | refine below_set ?_ GE226.out | refine below_set ?_ GE234.out) | exact HB.out)) hb)
          clear HO237
          clear HO240
          clear HO244
          clear HO255
          clear BK217
          clear BK226
          clear BK234
          clear HB
          have HO237 := n0_
          have HO240 := n1_
          have HO244 := n2_
          have HO255 := n3_
          have HO259 := n4_
          have BK217 := n5_
          have BK226 := n6_
          have BK234 := n7_
          have HB := n8_
          clear n0_ n1_ n2_ n3_ n4_ n5_ n6_ n7_ n8_
          clear hb ho40
          obtain ⟨Ao41, co41, eo41⟩ := Kd.R_slice HO244.out
          (first | subst eo41 | (injection eo41 with f1_ f2_ f3_; have f4_ := f1_.symm; have f5_ := f3_.symm; clear f1_ f2_ f3_; subst f4_; subst f5_))
          obtain ⟨Ao42, co42, eo42⟩ := Kd.R_slice HO259.out
          (first | subst eo42 | (injection eo42 with f1_ f2_ f3_; have f4_ := f1_.symm; have f5_ := f3_.symm; clear f1_ f2_ f3_; subst f4_; subst f5_))
          refine hK.out _ _ ⟨(blk_cell BK234.out 0).trans rfl, (blk_cell BK234.out 1).trans rfl, (blk_cell BK234.out 2).trans rfl, (blk_cell BK234.out 3).trans rfl, (blk_cell BK234.out 4).trans rfl, (blk_cell BK234.out 5).trans rfl, (blk_cell BK234.out 6).trans rfl, (blk_cell BK217.out 0).trans rfl, (blk_cell BK217.out 1).trans rfl, (blk_cell BK217.out 2).trans rfl, (blk_cell BK217.out 3).trans rfl, (blk_cell BK217.out 4).trans rfl, (blk_cell BK217.out 5).trans rfl, (blk_cell BK217.out 6).trans rfl, (blk_cell BK226.out 0).trans rfl, (blk_cell BK226.out 1).trans rfl, (blk_cell BK226.out 2).trans rfl, (blk_cell BK226.out 3).trans rfl, (blk_cell BK226.out 4).trans rfl, (blk_cell BK226.out 5).trans rfl, (blk_cell BK226.out 6).trans rfl⟩ (fun hHeld => ?_)
          clear hK K
          refine norm_ (a' := ?_) ?_ ?_
          rotate_left
          · show Act.put _ (some 54) _ = _
            simp only [Act.put, List.setIfInBounds_toArray, List.set_cons_zero, List.set_cons_succ, i64_w, i32_w]
            rfl
          refine one_ (i := 21) (N := some 55) #[true, true, true, true, true, true, true, true, true, true, true, true, true, true, true, true, true, true, true, true, true, true, false, false, false, false, false, false, false] rfl rfl (one_of HT_.out (by kernel_rfl)) (by decide) (fun K hK => ?_)
          refine goes_ Try.func38 (by kernel_rfl) rfl #[.slice Ao41 t242.length co41, .slice Ao42 y257.length co42] (by rfl) rfl rfl (by (try simp only [List.map_toArray, List.map_cons, List.map_nil]); first | done | rfl | (simp only [List.length_drop, List.length_take]; rfl)) ?_
          with_reducible refine (line_Same.calls k _ _ t242 _ _ y257 true _ ?side1 ?side2 ?side3 ?side4 A12.out).mono ?_
          (case side1 => repeat (first | exact (Kd.R_reads' HO244.out).2.2 | (with_reducible refine Kd.C_alloc ?_ _) | (with_reducible refine Kd.C_drewN ?_ _) | (with_reducible refine Kd.C_drew ?_)))
          (case side2 => exact (Kd.R_reads' HO244.out).2.1)
          (case side3 => repeat (first | exact (Kd.R_reads' HO259.out).2.2 | (with_reducible refine Kd.C_alloc ?_ _) | (with_reducible refine Kd.C_drewN ?_ _) | (with_reducible refine Kd.C_drew ?_)))
          (case side4 => exact (Kd.R_reads' HO259.out).2.1)
          rintro e w' ⟨rfl, ⟨nd, rfl⟩⟩
          refine ⟨_, rfl, ?_⟩
          refine hK.out _ _ ⟨(blk_cell BK234.out 0).trans rfl, (blk_cell BK234.out 1).trans rfl, (blk_cell BK234.out 2).trans rfl, (blk_cell BK234.out 3).trans rfl, (blk_cell BK234.out 4).trans rfl, (blk_cell BK234.out 5).trans rfl, (blk_cell BK234.out 6).trans rfl, (blk_cell BK217.out 0).trans rfl, (blk_cell BK217.out 1).trans rfl, (blk_cell BK217.out 2).trans rfl, (blk_cell BK217.out 3).trans rfl, (blk_cell BK217.out 4).trans rfl, (blk_cell BK217.out 5).trans rfl, (blk_cell BK217.out 6).trans rfl, (blk_cell BK226.out 0).trans rfl, (blk_cell BK226.out 1).trans rfl, (blk_cell BK226.out 2).trans rfl, (blk_cell BK226.out 3).trans rfl, (blk_cell BK226.out 4).trans rfl, (blk_cell BK226.out 5).trans rfl, (blk_cell BK226.out 6).trans rfl⟩ (fun hHeld => ?_)
          clear hK K
          refine norm_ (a' := ?_) ?_ ?_
          rotate_left
          · show Act.put _ (some 55) _ = _
            simp only [Act.put, List.setIfInBounds_toArray, List.set_cons_zero, List.set_cons_succ, i64_w, i32_w]
            rfl
          refine pure_ (i := 22) (N := some 56) (v := ?_) (a' := ?_) #[true, true, true, true, true, true, true, true, true, true, true, true, true, true, true, true, true, true, true, true, true, true, true, false, false, false, false, false, false] rfl rfl (any_of HT_.out (by kernel_rfl)) (fun _ _ _ h => h) (Or.inl ⟨by rfl, ?_⟩) ?_ ?_
          rotate_left
          · intro w'
            go_simp
            with_reducible rfl
          rotate_left
          · simp only [Act.put, List.setIfInBounds_toArray, List.set_cons_zero, List.set_cons_succ, i64_w, i32_w]
            rfl
          refine pure_ (i := 23) (N := some 57) (v := ?_) (a' := ?_) #[true, true, true, true, true, true, true, true, true, true, true, true, true, true, true, true, true, true, true, true, true, true, true, true, false, false, false, false, false] rfl rfl (any_of HT_.out (by kernel_rfl)) (fun _ _ _ h => h) (Or.inl ⟨by rfl, ?_⟩) ?_ ?_
          rotate_left
          · intro w'
            go_simp
            with_reducible rfl
          rotate_left
          · simp only [Act.put, List.setIfInBounds_toArray, List.set_cons_zero, List.set_cons_succ, i64_w, i32_w]
            rfl
          refine pure_ (i := 24) (N := some 58) (v := ?_) (a' := ?_) #[true, true, true, true, true, true, true, true, true, true, true, true, true, true, true, true, true, true, true, true, true, true, true, true, true, false, false, false, false] rfl rfl (any_of HT_.out (by kernel_rfl)) (fun _ _ _ h => h) (Or.inl ⟨by rfl, ?_⟩) ?_ ?_
          rotate_left
          · intro w'
            go_simp
            with_reducible rfl
          rotate_left
          · simp only [Act.put, List.setIfInBounds_toArray, List.set_cons_zero, List.set_cons_succ, i64_w, i32_w]
            rfl
          refine take_ (i := 25) (N := some 59) (v := ?_) (a' := ?_) #[true, true, true, true, true, true, true, true, true, true, true, true, true, true, true, true, true, true, true, true, true, true, true, true, true, true, false, false, false] rfl rfl (take_ofW HT_.out HW_.out (by kernel_rfl)) (fun _ _ _ h => h) (Or.inl ⟨by rfl, ?_⟩) hHeld ?_ ?_
          rotate_left
          · rintro w' ⟨s0, s1, s2, s3, s4, s5, s6, s7, s8, s9, s10, s11, s12, s13, s14, s15, s16, s17, s18, s19, s20⟩
            go_simp
            with_reducible rfl
          rotate_left
          · simp only [Act.put, List.setIfInBounds_toArray, List.set_cons_zero, List.set_cons_succ, i64_w, i32_w]
            rfl
          refine pure_ (i := 26) (N := some 60) (v := ?_) (a' := ?_) #[true, true, true, true, true, true, true, true, true, true, true, true, true, true, true, true, true, true, true, true, true, true, true, true, true, true, true, false, false] rfl rfl (any_of HT_.out (by kernel_rfl)) (fun _ _ _ h => h) (Or.inl ⟨by rfl, ?_⟩) ?_ ?_
          rotate_left
          · intro w'
            go_simp
            with_reducible rfl
          rotate_left
          · simp only [Act.put, List.setIfInBounds_toArray, List.set_cons_zero, List.set_cons_succ, i64_w, i32_w]
            rfl
          refine pure_ (i := 27) (N := some 61) (v := ?_) (a' := ?_) #[true, true, true, true, true, true, true, true, true, true, true, true, true, true, true, true, true, true, true, true, true, true, true, true, true, true, true, true, false] rfl rfl (any_of HT_.out (by kernel_rfl)) (fun _ _ _ h => h) (Or.inl ⟨by rfl, ?_⟩) ?_ ?_
          rotate_left
          · intro w'
            go_simp
            with_reducible rfl
          rotate_left
          · simp only [Act.put, List.setIfInBounds_toArray, List.set_cons_zero, List.set_cons_succ, i64_w, i32_w]
            rfl
          refine pure_ (i := 28) (N := some 0) (v := ?_) (a' := ?_) #[true, true, true, true, true, true, true, true, true, true, true, true, true, true, true, true, true, true, true, true, true, true, true, true, true, true, true, true, true] rfl rfl (any_of HT_.out (by kernel_rfl)) (fun _ _ _ h => h) (Or.inl ⟨by rfl, ?_⟩) ?_ ?_
          rotate_left
          · intro w'
            go_simp
            with_reducible rfl
          rotate_left
          · simp only [Act.put, List.setIfInBounds_toArray, List.set_cons_zero, List.set_cons_succ, i64_w, i32_w]
            rfl
          refine done_ (done_of HT_.out (by kernel_rfl)) ?_
          try go_wp2
          go_ret
          exact ⟨by first | rfl | (simp <;> rfl) | (simp [*] <;> rfl), by repeat (first | (with_reducible first | exact HB.out | apply below_alloc | apply pw_below_drewN | apply below_drew1 | refine below_set ?_ GE217.out | refine below_set ?_ GE226.out | refine below_set ?_ GE234.out) | exact HB.out)⟩
        · replace c13 := Bool.eq_false_iff.mpr c13
          subst c13
          have H1 : (some false) = some r := by rw [if_neg (show ¬ (false = true) by decide)] at H; exact H
          rw [HRT.out] at H1; cases H1
      · replace c11 := Bool.eq_false_iff.mpr c11
        subst c11
        have H1 : (some false) = some r := by rw [if_neg (show ¬ (false = true) by decide)] at H; exact H
        rw [HRT.out] at H1; cases H1
    · replace c10 := Bool.eq_false_iff.mpr c10
      subst c10
      have H1 : (some false) = some r := by rw [if_neg (show ¬ (false = true) by decide)] at H; exact H
      rw [HRT.out] at H1; cases H1
  · replace c7 := Bool.eq_false_iff.mpr c7
    subst c7
    have H1 : (some false) = some r := by rw [if_neg (show ¬ (false = true) by decide)] at H; exact H
    rw [HRT.out] at H1; cases H1/-! ### prolepsislaw06_known: function 41: of own contracts -/
def prolepsislaw06_known.f  : Option (Bool) := some true
theorem prolepsislaw06_known.calls  (r : Bool) (w : World) (h : prolepsislaw06_known.f  = some r) :
    Calls Try.prog 41 #[] w fun e w' => e = .returned (.bool r) ∧ Below w.heap.size w w' := by
  cases h
  exact prolepsislaw06_knownB.calls 100 true w (by decide +kernel) rfl

/-! ### slices_Index_rune_rune: function 86 -/
def slices_Index_rune_rune.l0 : Nat → List Int → Int → Int → Int → Option (Int)
  | 0, _, _, _, _ => none
  | k + 1, x0, x1, x7, x8 => if x8 < x7 then (if 0 ≤ x8 then (if x8 < (x0.length : Int) then (if x1 = (rd x0 x8) then (some x8) else (slices_Index_rune_rune.l0 k x0 x1 x7 (wrap64 (x8 + 1)))) else (none)) else (none)) else (some (-1))
def slices_Index_rune_rune.f (k : Nat) (l0 : List Int) (a1 : Int) : Option (Int) := slices_Index_rune_rune.l0 k l0 a1 (l0.length : Int) 0
set_option maxHeartbeats 8000000 in
set_option maxRecDepth 100000 in
theorem slices_Index_rune_rune.calls (k : Nat) (A0 : Option Addr) (c0 : Nat) (l0 : List Int) (a1 : Int) (r : Int) (w : World) (hr0 : Kd.C (Kd.int .i32) w A0 l0.length l0) (hc0 : l0.length ≤ c0) (h : slices_Index_rune_rune.f k l0 a1 = some r) :
    Calls Try.prog 86 #[.slice A0 l0.length c0, .int .i32 a1] w fun e w' => e = .returned (.int .i64 r) ∧ Drawn0 w w' := by
  have HR0 := Aside0.mk hr0
  have HC0 := Aside0.mk hc0
  clear hr0 hc0
  have H : (slices_Index_rune_rune.l0 k l0 a1 (l0.length : Int) 0) = some r := h
  clear h
  have H' := Aside0.mk H
  clear H
  go_enter Try.func86, Try.ntmps86
  go_wp2
  go_loopg [8] k (fun kq v8 w' => ∃ (x8_1 : Int), v8 = .int .i64 x8_1 ∧ Aside0 (slices_Index_rune_rune.l0 kq l0 a1 (l0.length : Int) x8_1 = some r) ∧ Aside0 (kq ≤ k) ∧ Drawn0 w w')
  case atStart => exact ⟨(0), (by first | rfl | (simp; done) | (simp [*]; done)), H', ⟨Nat.le_refl _⟩, by repeat (first | exact Drawn0.refl _ | apply Drawn0.step)⟩
  case round =>
    clear H'
    try clear p2
    obtain ⟨x8_1, rfl, HA, HK1, ⟨m1, rfl⟩⟩ := hrel
    cases gk with
    | zero => exact absurd HA.out (by simp [slices_Index_rune_rune.l0])
    | succ k1 =>
      have H := HA.out
      clear HA
      simp only [slices_Index_rune_rune.l0] at H
      by_cases c3 : x8_1 < (l0.length : Int)
      · rw [if_pos c3] at H
        have c3b0 : decide (x8_1 < (l0.length : Int)) = true := decide_eq_true c3
        clear c3
        by_cases c4 : 0 ≤ x8_1
        · rw [if_pos c4] at H
          have c4b0 : decide (0 ≤ x8_1) = true := decide_eq_true c4
          clear c4
          by_cases c5 : x8_1 < (l0.length : Int)
          · rw [if_pos c5] at H
            have c5b0 : decide (x8_1 < (l0.length : Int)) = true := decide_eq_true c5
            clear c5
            by_cases c6 : a1 = (rd l0 x8_1)
            · rw [if_pos c6] at H
              have c6b0 : (a1 == (rd l0 x8_1)) = true := beq_iff_eq.mpr c6
              have c6b1 : (a1 != (rd l0 x8_1)) = false := bne_eq_false_iff_eq.mpr c6
              clear c6
              obtain rfl := Option.some.inj H
              have p212 : 0 ≤ (x8_1 : Int) := of_decide_eq_true (by first | (with_reducible assumption) | assumption)
              have q212 : x8_1 < (l0.length : Int) := of_decide_eq_true (by first | (with_reducible assumption) | assumption)
              obtain ⟨ad212, e212, hx212_0⟩ := Kd.at_int HR0.out x8_1 p212 q212
              cases e212
              replace p212 := eq_true p212
              replace q212 := eq_true q212
              go_wp2
              go_ret
              exact ⟨by first | rfl | (simp; done) | (simp [*]; done), by repeat (first | exact Drawn0.refl _ | apply Drawn0.step)⟩
            · rw [if_neg c6] at H
              have c6b0 : (a1 == (rd l0 x8_1)) = false := beq_eq_false_iff_ne.mpr c6
              have c6b1 : (a1 != (rd l0 x8_1)) = true := bne_iff_ne.mpr c6
              have H' := Aside0.mk H
              clear H
              have p212 : 0 ≤ (x8_1 : Int) := of_decide_eq_true (by first | (with_reducible assumption) | assumption)
              have q212 : x8_1 < (l0.length : Int) := of_decide_eq_true (by first | (with_reducible assumption) | assumption)
              obtain ⟨ad212, e212, hx212_0⟩ := Kd.at_int HR0.out x8_1 p212 q212
              cases e212
              replace p212 := eq_true p212
              replace q212 := eq_true q212
              go_wp2
              go_roundg k1
              case measure => have := HK1.out; omega
              case rel => exact ⟨(wrap64 (x8_1 + 1)), (by first | rfl | (simp; done) | (simp [*]; done)), H', ⟨by have := HK1.out; omega⟩, by repeat (first | exact Drawn0.refl _ | apply Drawn0.step)⟩
          · rw [if_neg c5] at H
            exact absurd H (by simp)
        · rw [if_neg c4] at H
          exact absurd H (by simp)
      · rw [if_neg c3] at H
        have c3b0 : decide (x8_1 < (l0.length : Int)) = false := decide_eq_false c3
        clear c3
        obtain rfl := Option.some.inj H
        go_wp2
        go_ret
        exact ⟨by first | rfl | (simp; done) | (simp [*]; done), by repeat (first | exact Drawn0.refl _ | apply Drawn0.step)⟩

/-! ### width_Mark: function 87 -/
def width_Mark.f (a0 : Int) : Option (Bool) := (width_Of.f a0).bind fun t213 => (some (t213 == 0))
set_option maxHeartbeats 8000000 in
set_option maxRecDepth 100000 in
theorem width_Mark.calls (a0 : Int) (r : Bool) (w : World) (h : width_Mark.f a0 = some r) :
    Calls Try.prog 87 #[.int .i32 a0] w fun e w' => e = .returned (.bool r) ∧ Below w.heap.size w w' := by
  have HB := Aside0.mk (Below.refl w.heap.size w)
  have H : ((width_Of.f a0).bind fun t213 => (some (t213 == 0))) = some r := h
  clear h
  replace H := Option.bind_eq_some_iff.mp H
  obtain ⟨t213, A20, H⟩ := H
  replace H : (some (t213 == 0)) = some r := H
  have A2 := Aside0.mk A20
  clear A20
  obtain rfl := Option.some.inj H
  go_enter Try.func87, Try.ntmps87
  go_wp2_with (first | ((with_reducible refine gate_callee (f := 84) rfl ?_); refine goesL_ (some 4) rfl rfl Try.func84 (by kernel_rfl) rfl #[.int .i32 a0] rfl (by (try simp only [List.map_toArray, List.map_cons, List.map_nil]); first | done | rfl | (simp only [List.length_drop, List.length_take]; rfl)) ?_; (with_reducible refine (width_Of.calls a0 t213 _ A2.out).mono ?_); rintro e w3 ⟨rfl, hb⟩; refine ⟨_, rfl, ?_⟩; have n0_ := Aside0.mk (below_step (by repeat (first | (with_reducible first | exact HB.out | apply below_alloc | apply pw_below_drewN | apply below_drew1) | exact HB.out)) hb); clear HB; have HB := n0_; clear n0_; (try clear hb); (try clear hb2); (try clear hk); (try clear hi)))
  go_ret
  exact ⟨by first | rfl | (simp <;> rfl) | (simp [*] <;> rfl), by repeat (first | (with_reducible first | exact HB.out | apply below_alloc | apply pw_below_drewN | apply below_drew1) | exact HB.out)⟩

/-! ### cell_Mark: function 16: of own contracts -/
def cell_Mark.f (a0_0 : Int) (a0_1 : Int) (a0_2 : Int) (a0_3 : Int) (a0_4 : Int) (a0_5 : Int) (a0_6 : Int) (a1 : Int) : Option (Int × Int × Int × Int × Int × Int × Int × Bool) := some (markC a0_0 a0_1 a0_2 a0_3 a0_4 a0_5 a0_6 a1)
theorem cell_Mark.calls (a0_0 : Int) (a0_1 : Int) (a0_2 : Int) (a0_3 : Int) (a0_4 : Int) (a0_5 : Int) (a0_6 : Int) (a1 : Int) (r1 : Int) (r2 : Int) (r3 : Int) (r4 : Int) (r5 : Int) (r6 : Int) (r7 : Int) (r8 : Bool) (w : World) (h : cell_Mark.f a0_0 a0_1 a0_2 a0_3 a0_4 a0_5 a0_6 a1 = some (r1, r2, r3, r4, r5, r6, r7, r8)) :
    Calls Try.prog 16 #[.agg #[.int .i32 a0_0, .int .i32 a0_1, .int .i32 a0_2, .int .u8 a0_3, .int .u8 a0_4, .int .u8 a0_5, .int .u8 a0_6], .int .i32 a1] w fun e w' => e = .returned (.tuple #[.agg #[.int .i32 r1, .int .i32 r2, .int .i32 r3, .int .u8 r4, .int .u8 r5, .int .u8 r6, .int .u8 r7], .bool r8]) ∧ Below w.heap.size w w' := by
  have hI : Index2 Try.prog 86 := fun c1 c2 A w hC => by
    have h : slices_Index_rune_rune.f 4 [c1, c2] 0 = some (index2 c1 c2) := by
      unfold index2
      by_cases h1 : c1 = 0
      · simp [slices_Index_rune_rune.f, slices_Index_rune_rune.l0, rd, h1]
      · by_cases h2 : c2 = 0
        · simp [slices_Index_rune_rune.f, slices_Index_rune_rune.l0, rd, h1, Ne.symm h1, h2, wrap64]
        · simp [slices_Index_rune_rune.f, slices_Index_rune_rune.l0, rd, h1, h2, Ne.symm h1, Ne.symm h2, wrap64]
    refine (slices_Index_rune_rune.calls 4 A 2 [c1, c2] 0 _ w hC (by simp) h).mono ?_
    rintro e w' ⟨rfl, ⟨nd, hd⟩⟩
    exact ⟨rfl, nd, hd⟩
  exact mark_walk hI (fun r w => width_Mark.calls r _ w rfl) _ _ _ _ _ _ _ _ _ _ _ _ _ _ _ _ w (Option.some.inj h)

end Go.Proofs.Ytblcmcdifgclcaa.PLineStays
