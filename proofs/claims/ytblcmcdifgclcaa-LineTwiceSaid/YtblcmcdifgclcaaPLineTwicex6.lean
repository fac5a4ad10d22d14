/- What the law LineTwice reaches: each function with its contract. -/
import Derived.Test.YtblcmcdifgclcaaPLineTwicex0
import Derived.Test.YtblcmcdifgclcaaPLineTwicex3
import Derived.Test.YtblcmcdifgclcaaPLineTwicex5
namespace Go.Proofs.Ytblcmcdifgclcaa.PLineTwice
open Go.RowKit Go.Proofs.YtblcmcdifgclcaaW.PrintWords Go.Proofs.YtblcmcdifgclcaaW.PrintLast Go.Proofs.YtblcmcdifgclcaaW.PrintMore
attribute [local go_sem] max2_int min2_int max_two min_two max_three min_three max_four min_four   -- for this text's walks alone
set_option linter.unusedVariables false
set_option linter.unusedSimpArgs false

/-! ### line_blanks: function 99 -/
def line_blanks.l0 : Nat → List (S26) → Int → Int → Int → Int → Int → Option ((List (S26)))
  | 0, _, _, _, _, _, _ => none
  | k + 1, x5, x6, x7, x167000, x167001, x167002 => if x7 < x6 then ((cell_Blank.f x167000 x167001 x167002).bind fun bt167 => (if x5.length < 8796093022208 then (line_blanks.l0 k (x5 ++ [(⟨bt167.1, (⟨bt167.2.1, bt167.2.2.1⟩ : S22), bt167.2.2.2.1, (⟨bt167.2.2.2.2.1, bt167.2.2.2.2.2.1, bt167.2.2.2.2.2.2⟩ : S24)⟩ : S26)]) x6 (wrap64 (x7 + 1)) x167000 x167001 x167002) else (none))) else (some x5)
def line_blanks.f (k : Nat) (a0 : Int) (a1_0 : Int) (a1_1 : Int) (a1_2 : Int) : Option ((List (S26))) := line_blanks.l0 k ([] : List (S26)) a0 0 a1_0 a1_1 a1_2
theorem line_blanks.mono_l : ∀ k, (∀ y0 y1 y2 y3 y4 y5, LeO (line_blanks.l0 k y0 y1 y2 y3 y4 y5) (line_blanks.l0 (k + 1) y0 y1 y2 y3 y4 y5))
  | 0 => fun _ _ _ _ _ _ r h => by simp [line_blanks.l0] at h
  | k + 1 => by
    have ih0 := line_blanks.mono_l k
    · intro y0 y1 y2 y3 y4 y5
      unfold line_blanks.l0
      repeat' first
      | (with_reducible exact ih0 _ _ _ _ _ _)
      | (with_reducible exact LeO.refl _)
      | (with_reducible exact LeO.none _)
      | (with_reducible refine LeO.ite ?_ ?_)
      | (with_reducible refine LeO.bind ?_ (fun _ => ?_))
      | exact ih0 _ _ _ _ _ _
      | exact LeO.none _
      | refine LeO.ite ?_ ?_
      | refine LeO.bind ?_ (fun _ => ?_)
theorem line_blanks.mono : ∀ a0 a1 a2 a3 k, LeO (line_blanks.f k a0 a1 a2 a3) (line_blanks.f (k + 1) a0 a1 a2 a3) := by
  intro a0 a1 a2 a3 k
  have ih0 := line_blanks.mono_l k
  unfold line_blanks.f
  repeat' first
      | (with_reducible exact ih0 _ _ _ _ _ _)
      | (with_reducible exact LeO.refl _)
      | (with_reducible exact LeO.none _)
      | (with_reducible refine LeO.ite ?_ ?_)
      | (with_reducible refine LeO.bind ?_ (fun _ => ?_))
      | exact ih0 _ _ _ _ _ _
      | exact LeO.none _
      | refine LeO.ite ?_ ?_
      | refine LeO.bind ?_ (fun _ => ?_)
set_option maxHeartbeats 8000000 in
set_option maxRecDepth 100000 in
theorem line_blanks.calls (k : Nat) (a0 : Int) (a1_0 : Int) (a1_1 : Int) (a1_2 : Int) (r : List (S26)) (w : World) (h : line_blanks.f k a0 a1_0 a1_1 a1_2 = some r) :
    Calls Try.prog 99 #[.int .i64 a0, .agg #[.int .u8 a1_0, .int .u8 a1_1, .int .u8 a1_2]] w fun e w' => ∃ v0_ : Value, e = .returned (v0_) ∧ Kd.R k26 26 w' w.heap.size (fun _ => True) v0_ r ∧ Below w.heap.size w w' := by
  have hu24 := Try.underlying24
  have HB := Aside0.mk (Below.refl w.heap.size w)
  have H : (line_blanks.l0 k ([] : List (S26)) a0 0 a1_0 a1_1 a1_2) = some r := h
  clear h
  have H' := Aside0.mk H
  clear H
  go_enter Try.func99, Try.ntmps99
  go_wp2_with (first | ((with_reducible refine gate_dst (N := 3) rfl ?_); refine box_event ?hg (N := 3) ?hd (cs := #[.int .u8 a1_0, .int .u8 a1_1, .int .u8 a1_2]) (t := 24) ?hr ?_; (case hd => rfl); (case hg => rfl); (case hr => first | (go_simp; done) | (go_simp; rfl)); intro gb166 hg w3 hbox hb; have n0_ := Aside0.mk (below_step (by repeat (first | (with_reducible first | exact HB.out | apply below_alloc | apply pw_below_drewN | apply below_drew1) | exact HB.out)) hb); have n1_ := Aside0.mk (hbox); have n2_ := Aside0.mk ((by rw [hg]; exact (below_size (by repeat (first | (with_reducible first | exact HB.out | apply below_alloc | apply pw_below_drewN | apply below_drew1) | exact HB.out))) : w.heap.size ≤ gb166)); have n3_ := Aside0.mk ((by rw [hg]; exact (below_size (by repeat (first | (with_reducible first | exact HB.out | apply below_alloc | apply pw_below_drewN | apply below_drew1) | exact HB.out))) : w.heap.size ≤ gb166)); clear HB; have HB := n0_; have BK166 := n1_; have GW166 := n2_; have GE166 := n3_; clear n0_ n1_ n2_ n3_; clear hb hbox hg))
  go_loopg [5, 7] k (fun kq v5 v7 w' => ∃ (x5_1 : List (S26)) (x7_1 : Int), v7 = .int .i64 x7_1 ∧ Aside0 (line_blanks.l0 kq x5_1 a0 x7_1 a1_0 a1_1 a1_2 = some r) ∧ Aside0 (kq ≤ k) ∧ Aside0 (Kd.R k26 26 w' w.heap.size (fun _ => True) v5 x5_1) ∧ Aside0 (w'.heap[gb166]? = some (.cells #[.int .u8 a1_0, .int .u8 a1_1, .int .u8 a1_2] 24 (0, 0))) ∧ Aside0 (Below w.heap.size w w'))
  case atStart => exact ⟨(([] : List (S26))), (0), (by first | rfl | (simp; done) | (simp [*]; done)), H', ⟨Nat.le_refl _⟩, ⟨by first | exact Kd.R_nil _ _ _ _ _ | exact Kd.N_nil _ _ _ _ _ | exact Kd.V_nil _ _ _ _ _ | exact Kd.Q_nil _ _ _ _ _ | exact Kd.S_nil _ _ _ _ _⟩, ⟨by (with_reducible repeat (first | refine blk_drewN ?_ _ | refine blk_drew ?_ | refine blk_alloc ?_ _)); exact BK166.out⟩, ⟨by repeat (first | (with_reducible first | exact HB.out | apply below_alloc | apply pw_below_drewN | apply below_drew1 | refine below_set ?_ GE166.out) | exact HB.out)⟩⟩
  case round =>
    clear H'
    try clear p2
    obtain ⟨x5_1, x7_1, rfl, HA, HK1, HO_5, BK166, HB⟩ := hrel
    cases gk with
    | zero => exact absurd HA.out (by simp [line_blanks.l0])
    | succ k1 =>
      have H := HA.out
      clear HA
      simp only [line_blanks.l0] at H
      by_cases c4 : x7_1 < a0
      · rw [if_pos c4] at H
        have c4b0 : decide (x7_1 < a0) = true := decide_eq_true c4
        clear c4
        replace H := Option.bind_eq_some_iff.mp H
        obtain ⟨⟨t167, t168, t169, t170, t171, t172, t173⟩, A50, H⟩ := H
        replace H : (if x5_1.length < 8796093022208 then (line_blanks.l0 k1 (x5_1 ++ [(⟨t167, (⟨t168, t169⟩ : S22), t170, (⟨t171, t172, t173⟩ : S24)⟩ : S26)]) a0 (wrap64 (x7_1 + 1)) a1_0 a1_1 a1_2) else (none)) = some r := H
        have A5 := Aside0.mk A50
        clear A50
        by_cases c6 : x5_1.length < 8796093022208
        · rw [if_pos c6] at H
          have LMc6 := Aside0.mk c6
          clear c6
          obtain ⟨y174, hy174⟩ : ∃ y_ : List (S26), y_ = (x5_1 ++ [(⟨t167, (⟨t168, t169⟩ : S22), t170, (⟨t171, t172, t173⟩ : S24)⟩ : S26)]) := ⟨_, rfl⟩
          replace H : (line_blanks.l0 k1 y174 a0 (wrap64 (x7_1 + 1)) a1_0 a1_1 a1_2) = some r := by first | (rw [hy174]; with_reducible exact H) | (have H2_ := (Option.bind_some _ _).symm.trans H; rw [hy174]; with_reducible exact H2_) | (have H2_ := (Option.bind_some _ _).symm.trans H; with_reducible exact H2_) | with_reducible exact H | (rw [hy174]; exact H) | exact H
          have Ny174 := Aside0.mk hy174
          clear hy174
          have H' := Aside0.mk H
          clear H
          have hcz7_0 : wr.cell? ⟨gb166, 0, none⟩ = some (.int .u8 a1_0) := (blk_cell BK166.out 0).trans rfl
          have hcz7_1 : wr.cell? ⟨gb166, 1, none⟩ = some (.int .u8 a1_1) := (blk_cell BK166.out 1).trans rfl
          have hcz7_2 : wr.cell? ⟨gb166, 2, none⟩ = some (.int .u8 a1_2) := (blk_cell BK166.out 2).trans rfl
          have hfz7_0 := blk_frozen BK166.out 0
          have hfz7_1 := blk_frozen BK166.out 1
          have hfz7_2 := blk_frozen BK166.out 2
          go_wp2_with (first | ((with_reducible refine gate_callee (f := 21) rfl ?_); refine goesL_ (some 11) rfl rfl Try.func21 (by kernel_rfl) rfl #[.agg #[.int .u8 a1_0, .int .u8 a1_1, .int .u8 a1_2]] rfl (by (try simp only [List.map_toArray, List.map_cons, List.map_nil]); first | done | rfl | (simp only [List.length_drop, List.length_take]; rfl)) ?_; (with_reducible refine (cell_Blank.calls a1_0 a1_1 a1_2 t167 t168 t169 t170 t171 t172 t173 _ A5.out).mono ?_); rintro e w8 ⟨rfl, hb⟩; refine ⟨_, rfl, ?_⟩; have n0_ := Aside0.mk (Kd.R_below (by (with_reducible repeat (first | apply Kd.R_alloc | apply Kd.R_drewN | apply Kd.R_drew)); exact HO_5.out) hb); have n1_ := Aside0.mk (blk_below (g := gb166) (o := .cells #[.int .u8 a1_0, .int .u8 a1_1, .int .u8 a1_2] 24 (0, 0)) (by (with_reducible repeat (first | refine blk_drewN ?_ _ | refine blk_drew ?_ | refine blk_alloc ?_ _)); exact BK166.out) hb); have n2_ := Aside0.mk (below_step (by repeat (first | (with_reducible first | exact HB.out | apply below_alloc | apply pw_below_drewN | apply below_drew1 | refine below_set ?_ GE166.out) | exact HB.out)) hb); clear HO_5; clear BK166; clear HB; have HO_5 := n0_; have BK166 := n1_; have HB := n2_; clear n0_ n1_ n2_; (try clear hb); (try clear hb2); (try clear hk); (try clear hi)) | ((with_reducible refine gate_builtin (b := .append) (xs := #[.tmp 9, .tmp 12]) rfl ?_); at_builtin; refine Kd.R_append k26 (w0 := w) w.heap.size rfl (.tmp 9) (.tmp 12) 58 26 (.agg #[(.int .i32 0), (.int .i32 0), (.int .i32 0), (.int .u8 0), (.int .u8 0), (.int .u8 0), (.int .u8 0)]) 16 rfl Try.underlying58 info26 rfl (by decide) (by omega) u5 x5_1 (⟨t167, (⟨t168, t169⟩ : S22), t170, (⟨t171, t172, t173⟩ : S24)⟩ : S26) [.int .i32 t167, .int .i32 t168, .int .i32 t169, .int .u8 t170, .int .u8 t171, .int .u8 t172, .int .u8 t173] (fun _ => True) (fun _ => False) rfl rfl ?aP (fun _ hk => hk.elim) ?aF ?aO ?aB ?aS ?aL ?_; (case aP => exact k26_mkM _ _ _ (⟨t167, (⟨t168, t169⟩ : S22), t170, (⟨t171, t172, t173⟩ : S24)⟩ : S26)); (case aB => exact (by repeat (first | (with_reducible first | exact HB.out | apply below_alloc | apply pw_below_drewN | apply below_drew1 | refine below_set ?_ GE166.out) | exact HB.out))); (case aF => exact (fun _ _ => trivial)); (case aO => exact (by (with_reducible repeat (first | apply Kd.R_alloc | apply Kd.R_drewN | apply Kd.R_drew)); exact HO_5.out)); (case aS => exact (below_size (by repeat (first | (with_reducible first | exact HB.out | apply below_alloc | apply pw_below_drewN | apply below_drew1 | refine below_set ?_ GE166.out) | exact HB.out)))); (case aL => have := LMc6.out; omega); intro v175 w9 ho hb hg hat; rw [← Ny174.out] at ho; have n0_ := Aside0.mk (blk_grown (g := gb166) (o := .cells #[.int .u8 a1_0, .int .u8 a1_1, .int .u8 a1_2] 24 (0, 0)) (by (with_reducible repeat (first | refine blk_drewN ?_ _ | refine blk_drew ?_ | refine blk_alloc ?_ _)); exact BK166.out) hg (Kd.R_ne HO_5.out BK166.out (by decide))); have n1_ := Aside0.mk (hb); have n2_ := Aside0.mk (ho); clear BK166; clear HB; clear HO_5; have BK166 := n0_; have HB := n1_; have HO176 := n2_; clear n0_ n1_ n2_; clear ho hb hg hat))
          go_roundg k1
          case measure => have := HK1.out; omega
          case rel => exact ⟨(y174), (wrap64 (x7_1 + 1)), (by first | rfl | (simp; done) | (simp [*]; done)), H', ⟨by have := HK1.out; omega⟩, ⟨by (with_reducible repeat (first | apply Kd.R_alloc | apply Kd.R_drewN | apply Kd.R_drew)); exact HO176.out⟩, ⟨by (with_reducible repeat (first | refine blk_drewN ?_ _ | refine blk_drew ?_ | refine blk_alloc ?_ _)); exact BK166.out⟩, ⟨by repeat (first | (with_reducible first | exact HB.out | apply below_alloc | apply pw_below_drewN | apply below_drew1 | refine below_set ?_ GE166.out) | exact HB.out)⟩⟩
        · rw [if_neg c6] at H
          exact absurd H (by simp)
      · rw [if_neg c4] at H
        have c4b0 : decide (x7_1 < a0) = false := decide_eq_false c4
        clear c4
        obtain rfl := Option.some.inj H
        go_wp2
        go_ret
        exact ⟨_, by first | rfl | (simp [errW_none, errW_some] <;> rfl) | (simp [*, errW_none, errW_some] <;> rfl), by (with_reducible repeat (first | apply Kd.R_alloc | apply Kd.R_drewN | apply Kd.R_drew)); exact HO_5.out, by repeat (first | (with_reducible first | exact HB.out | apply below_alloc | apply pw_below_drewN | apply below_drew1 | refine below_set ?_ GE166.out) | exact HB.out)⟩

/-! ### line_Fit: function 39 -/
def line_Fit.f (k : Nat) (l0 : List (S26)) (a1 : Int) : Option ((List (S26))) := (line_length.f a1).bind fun t177 => (if t177 ≤ (l0.length : Int) then (if 0 ≤ t177 then ((line_Mend.f (l0.take (t177 : Int).toNat)).bind fun t182 => (some t182)) else (none)) else ((cell_Cell_95.f l0).bind fun t185 => ((line_blanks.f k (wrap64 (t177 - (l0.length : Int))) 0 0 0).bind fun t188 => (if t185.length + t188.length < 8796093022208 then ((line_Mend.f (t185 ++ t188)).bind fun t194 => (some t194)) else (none)))))
theorem line_Fit.mono : ∀ a0 a1 k, LeO (line_Fit.f k a0 a1) (line_Fit.f (k + 1) a0 a1) := by
  intro a0 a1 k
  unfold line_Fit.f
  repeat' first
      | (with_reducible exact line_blanks.mono _ _ _ _ _)
      | (with_reducible exact LeO.refl _)
      | (with_reducible exact LeO.none _)
      | (with_reducible refine LeO.ite ?_ ?_)
      | (with_reducible refine LeO.bind ?_ (fun _ => ?_))
      | exact line_blanks.mono _ _ _ _ _
      | exact LeO.none _
      | refine LeO.ite ?_ ?_
      | refine LeO.bind ?_ (fun _ => ?_)
set_option maxHeartbeats 8000000 in
set_option maxRecDepth 100000 in
theorem line_Fit.calls (k : Nat) (A0 : Option Addr) (c0 : Nat) (l0 : List (S26)) (a1 : Int) (r : List (S26)) (w : World) (hr0 : Kd.C k26 w A0 l0.length l0) (hc0 : l0.length ≤ c0) (h : line_Fit.f k l0 a1 = some r) :
    Calls Try.prog 39 #[.slice A0 l0.length c0, .int .i64 a1] w fun e w' => ∃ v0_ : Value, e = .returned (v0_) ∧ Kd.R k26 26 w' w.heap.size (fun _ => True) v0_ r ∧ Below w.heap.size w w' := by
  have hu24 := Try.underlying24
  have HR0 := Aside0.mk hr0
  have HC0 := Aside0.mk hc0
  clear hr0 hc0
  have HB := Aside0.mk (Below.refl w.heap.size w)
  have H : ((line_length.f a1).bind fun t177 => (if t177 ≤ (l0.length : Int) then (if 0 ≤ t177 then ((line_Mend.f (l0.take (t177 : Int).toNat)).bind fun t182 => (some t182)) else (none)) else ((cell_Cell_95.f l0).bind fun t185 => ((line_blanks.f k (wrap64 (t177 - (l0.length : Int))) 0 0 0).bind fun t188 => (if t185.length + t188.length < 8796093022208 then ((line_Mend.f (t185 ++ t188)).bind fun t194 => (some t194)) else (none)))))) = some r := h
  clear h
  replace H := Option.bind_eq_some_iff.mp H
  obtain ⟨t177, A30, H⟩ := H
  replace H : (if t177 ≤ (l0.length : Int) then (if 0 ≤ t177 then ((line_Mend.f (l0.take (t177 : Int).toNat)).bind fun t182 => (some t182)) else (none)) else ((cell_Cell_95.f l0).bind fun t185 => ((line_blanks.f k (wrap64 (t177 - (l0.length : Int))) 0 0 0).bind fun t188 => (if t185.length + t188.length < 8796093022208 then ((line_Mend.f (t185 ++ t188)).bind fun t194 => (some t194)) else (none))))) = some r := H
  have A3 := Aside0.mk A30
  clear A30
  by_cases c4 : t177 ≤ (l0.length : Int)
  · rw [if_pos c4] at H
    have c4b0 : decide (t177 ≤ (l0.length : Int)) = true := decide_eq_true c4
    clear c4
    by_cases c5 : 0 ≤ t177
    · rw [if_pos c5] at H
      have c5b0 := eq_true c5
      have c5b1 : decide (0 ≤ t177) = true := decide_eq_true c5
      clear c5
      have c6b0 := eq_true (of_decide_eq_true (by first | (with_reducible assumption) | assumption) : t177 ≤ (l0.length : Int))
      obtain ⟨y178, hy178⟩ : ∃ y_ : List (S26), y_ = (l0.take (t177 : Int).toNat) := ⟨_, rfl⟩
      replace H : ((line_Mend.f y178).bind fun t182 => (some t182)) = some r := by first | (rw [hy178]; with_reducible exact H) | (have H2_ := (Option.bind_some _ _).symm.trans H; rw [hy178]; with_reducible exact H2_) | (have H2_ := (Option.bind_some _ _).symm.trans H; with_reducible exact H2_) | with_reducible exact H | (rw [hy178]; exact H) | exact H
      have Ny178 := Aside0.mk hy178
      clear hy178
      replace H := Option.bind_eq_some_iff.mp H
      obtain ⟨t182, A70, H⟩ := H
      replace H : (some t182) = some r := H
      have A7 := Aside0.mk A70
      clear A70
      obtain rfl := Option.some.inj H
      go_enter Try.func39, Try.ntmps39
      go_wp2_with (first | ((with_reducible refine gate_callee (f := 98) rfl ?_); refine goesL_ (some 6) rfl rfl Try.func98 (by kernel_rfl) rfl #[.int .i64 a1] rfl (by (try simp only [List.map_toArray, List.map_cons, List.map_nil]); first | done | rfl | (simp only [List.length_drop, List.length_take]; rfl)) ?_; (with_reducible refine (line_length.calls a1 t177 _ A3.out).mono ?_); rintro e w8 ⟨rfl, hb⟩; refine ⟨_, rfl, ?_⟩; have n0_ := Aside0.mk (below_step (by repeat (first | (with_reducible first | exact HB.out | apply below_alloc | apply pw_below_drewN | apply below_drew1) | exact HB.out)) hb); clear HB; have HB := n0_; clear n0_; (try clear hb); (try clear hb2); (try clear hk); (try clear hi); have q9 : (t177 : Int) ≤ ((l0.length : Int) : Int) := of_decide_eq_true (by first | (with_reducible assumption) | assumption); obtain ⟨i09, hi09, _, hsz9, _⟩ := info_parts info26; have hroom9 : l0.length ≤ c0 := HC0.out; have hC9 : Kd.C k26 _ A0 l0.length l0 := HR0.out; have hcut9 := cut_to (P := Try.prog) 58 26 .i64 Try.underlying58 hi09 A0 l0.length c0 t177 (of_decide_eq_true (by first | (with_reducible assumption) | assumption)) q9 hroom9; have hr9 := Kd.C_take (m := (t177 : Int).toNat) hC9 (by omega); have hy9 : y178.length = (t177 : Int).toNat := (by rw [Ny178.out, List.length_take]; omega); rw [← Ny178.out] at hr9; rw [← hy9] at hcut9; have HR181 := Aside0.mk hr9; have HC181 := Aside0.mk (show y178.length ≤ c0 from by omega); clear hr9 hC9 hroom9 hi09 hsz9; have KY9 := Aside0.mk hy9; clear hy9; replace q9 := eq_true q9) | ((with_reducible refine gate_callee (f := 49) rfl ?_); refine goesL_ (some 14) rfl rfl Try.func49 (by kernel_rfl) rfl #[.slice A0 y178.length c0] rfl (by (try simp only [List.map_toArray, List.map_cons, List.map_nil]); first | done | rfl | (simp only [List.length_drop, List.length_take]; rfl)) ?_; (with_reducible refine (line_Mend.calls _ _ y178 t182 _ ?side1 ?side2 A7.out).mono ?_); (case side1 => repeat (first | exact (Kd.C_below HR181.out HB.out) | (with_reducible refine Kd.C_alloc ?_ _) | (with_reducible refine Kd.C_drewN ?_ _) | (with_reducible refine Kd.C_drew ?_))); (case side2 => exact HC181.out); rintro e w10 ⟨v183, rfl, ho0, hb⟩; refine ⟨_, rfl, ?_⟩; have n0_ := Aside0.mk (Kd.R_lower ho0 (below_size (by repeat (first | (with_reducible first | exact HB.out | apply below_alloc | apply pw_below_drewN | apply below_drew1) | exact HB.out)))); have n1_ := Aside0.mk (below_step (by repeat (first | (with_reducible first | exact HB.out | apply below_alloc | apply pw_below_drewN | apply below_drew1) | exact HB.out)) hb); clear HB; have HO184 := n0_; have HB := n1_; clear n0_ n1_; (try clear hb); (try clear hb2); (try clear hk); (try clear hi); (try clear ho0)))
      go_ret
      exact ⟨_, by first | rfl | (simp [errW_none, errW_some] <;> rfl) | (simp [*, errW_none, errW_some] <;> rfl), by (with_reducible repeat (first | apply Kd.R_alloc | apply Kd.R_drewN | apply Kd.R_drew)); exact HO184.out, by repeat (first | (with_reducible first | exact HB.out | apply below_alloc | apply pw_below_drewN | apply below_drew1) | exact HB.out)⟩
    · rw [if_neg c5] at H
      exact absurd H (by simp)
  · rw [if_neg c4] at H
    have c4b0 : decide (t177 ≤ (l0.length : Int)) = false := decide_eq_false c4
    clear c4
    replace H := Option.bind_eq_some_iff.mp H
    obtain ⟨t185, A110, H⟩ := H
    replace H : ((line_blanks.f k (wrap64 (t177 - (l0.length : Int))) 0 0 0).bind fun t188 => (if t185.length + t188.length < 8796093022208 then ((line_Mend.f (t185 ++ t188)).bind fun t194 => (some t194)) else (none))) = some r := H
    have A11 := Aside0.mk A110
    clear A110
    replace H := Option.bind_eq_some_iff.mp H
    obtain ⟨t188, A120, H⟩ := H
    replace H : (if t185.length + t188.length < 8796093022208 then ((line_Mend.f (t185 ++ t188)).bind fun t194 => (some t194)) else (none)) = some r := H
    have A12 := Aside0.mk A120
    clear A120
    by_cases c13 : t185.length + t188.length < 8796093022208
    · rw [if_pos c13] at H
      have LMc13 := Aside0.mk c13
      clear c13
      obtain ⟨y191, hy191⟩ : ∃ y_ : List (S26), y_ = (t185 ++ t188) := ⟨_, rfl⟩
      replace H : ((line_Mend.f y191).bind fun t194 => (some t194)) = some r := by first | (rw [hy191]; with_reducible exact H) | (have H2_ := (Option.bind_some _ _).symm.trans H; rw [hy191]; with_reducible exact H2_) | (have H2_ := (Option.bind_some _ _).symm.trans H; with_reducible exact H2_) | with_reducible exact H | (rw [hy191]; exact H) | exact H
      have Ny191 := Aside0.mk hy191
      clear hy191
      replace H := Option.bind_eq_some_iff.mp H
      obtain ⟨t194, A140, H⟩ := H
      replace H : (some t194) = some r := H
      have A14 := Aside0.mk A140
      clear A140
      obtain rfl := Option.some.inj H
      go_enter Try.func39, Try.ntmps39
      go_wp2_with (first | ((with_reducible refine gate_callee (f := 98) rfl ?_); refine goesL_ (some 6) rfl rfl Try.func98 (by kernel_rfl) rfl #[.int .i64 a1] rfl (by (try simp only [List.map_toArray, List.map_cons, List.map_nil]); first | done | rfl | (simp only [List.length_drop, List.length_take]; rfl)) ?_; (with_reducible refine (line_length.calls a1 t177 _ A3.out).mono ?_); rintro e w15 ⟨rfl, hb⟩; refine ⟨_, rfl, ?_⟩; have n0_ := Aside0.mk (below_step (by repeat (first | (with_reducible first | exact HB.out | apply below_alloc | apply pw_below_drewN | apply below_drew1) | exact HB.out)) hb); clear HB; have HB := n0_; clear n0_; (try clear hb); (try clear hb2); (try clear hk); (try clear hi)) | ((with_reducible refine gate_callee (f := 95) rfl ?_); refine goesL_ (some 16) rfl rfl Try.func95 (by kernel_rfl) rfl #[.slice A0 l0.length c0] rfl (by (try simp only [List.map_toArray, List.map_cons, List.map_nil]); first | done | rfl | (simp only [List.length_drop, List.length_take]; rfl)) ?_; (with_reducible refine (cell_Cell_95.calls _ _ l0 t185 _ ?side1 ?side2 A11.out).mono ?_); (case side1 => repeat (first | exact (Kd.C_below HR0.out HB.out) | (with_reducible refine Kd.C_alloc ?_ _) | (with_reducible refine Kd.C_drewN ?_ _) | (with_reducible refine Kd.C_drew ?_))); (case side2 => exact HC0.out); rintro e w16 ⟨v186, rfl, ho0, hb⟩; refine ⟨_, rfl, ?_⟩; have n0_ := Aside0.mk (Kd.R_lower ho0 (below_size (by repeat (first | (with_reducible first | exact HB.out | apply below_alloc | apply pw_below_drewN | apply below_drew1) | exact HB.out)))); have n1_ := Aside0.mk (below_step (by repeat (first | (with_reducible first | exact HB.out | apply below_alloc | apply pw_below_drewN | apply below_drew1) | exact HB.out)) hb); clear HB; have HO187 := n0_; have HB := n1_; clear n0_ n1_; (try clear hb); (try clear hb2); (try clear hk); (try clear hi); (try clear ho0)) | ((with_reducible refine gate_callee (f := 99) rfl ?_); refine goesL_ (some 22) rfl rfl Try.func99 (by kernel_rfl) rfl #[.int .i64 (wrap64 (t177 - (l0.length : Int))), .agg #[.int .u8 0, .int .u8 0, .int .u8 0]] rfl (by (try simp only [List.map_toArray, List.map_cons, List.map_nil]); first | done | rfl | (simp only [List.length_drop, List.length_take]; rfl)) ?_; (with_reducible refine (line_blanks.calls k (wrap64 (t177 - (l0.length : Int))) 0 0 0 t188 _ A12.out).mono ?_); rintro e w17 ⟨v189, rfl, ho0, hb⟩; refine ⟨_, rfl, ?_⟩; have n0_ := Aside0.mk (Kd.R_elder' (by (with_reducible repeat (first | apply Kd.R_alloc | apply Kd.R_drewN | apply Kd.R_drew)); exact HO187.out) (Kd.R_base ho0) hb); have n1_ := Aside0.mk (Kd.R_lower (Kd.R_new' ho0 (Kd.R_lt (by (with_reducible repeat (first | apply Kd.R_alloc | apply Kd.R_drewN | apply Kd.R_drew)); exact HO187.out))) (below_size (by repeat (first | (with_reducible first | exact HB.out | apply below_alloc | apply pw_below_drewN | apply below_drew1) | exact HB.out)))); have n2_ := Aside0.mk (below_step (by repeat (first | (with_reducible first | exact HB.out | apply below_alloc | apply pw_below_drewN | apply below_drew1) | exact HB.out)) hb); clear HO187; clear HB; have HO187 := n0_; have HO190 := n1_; have HB := n2_; clear n0_ n1_ n2_; (try clear hb); (try clear hb2); (try clear hk); (try clear hi); (try clear ho0); obtain ⟨Ao19, co19, eo19⟩ := Kd.R_slice HO190.out; subst eo19) | ((with_reducible refine gate_builtin (b := .append) (xs := #[.tmp 16, .tmp 22]) rfl ?_); at_builtin; refine Kd.R_append_rows k26 (w0 := w) w.heap.size rfl (.tmp 16) (.tmp 22) 58 26 (.agg #[(.int .i32 0), (.int .i32 0), (.int .i32 0), (.int .u8 0), (.int .u8 0), (.int .u8 0), (.int .u8 0)]) 16 rfl Try.underlying58 info26 rfl (by decide) (by omega) v186 t185 t188 _ _ _ (fun k_ => some k_ ≠ (.slice Ao19 t188.length co19 : Value).ownBlock) (fun _ => False) rfl rfl ?aO ?aR (fun _ _ h => h) (fun _ h => h.elim) ?aF ?aB ?aS ?aL ?_; (case aR => repeat (first | exact (Kd.R_reads' HO190.out).2.2 | (with_reducible refine Kd.C_alloc ?_ _) | (with_reducible refine Kd.C_drewN ?_ _) | (with_reducible refine Kd.C_drew ?_))); (case aB => exact (by repeat (first | (with_reducible first | exact HB.out | apply below_alloc | apply pw_below_drewN | apply below_drew1) | exact HB.out))); (case aF => exact (fun k_ hk => Kd.fresh' (Kd.R_lt (by (with_reducible repeat (first | apply Kd.R_alloc | apply Kd.R_drewN | apply Kd.R_drew)); exact HO190.out)) k_ hk)); (case aO => exact (by (with_reducible repeat (first | apply Kd.R_alloc | apply Kd.R_drewN | apply Kd.R_drew)); exact Kd.R_mono HO187.out (fun _ hk => hk.2))); (case aS => exact (below_size (by repeat (first | (with_reducible first | exact HB.out | apply below_alloc | apply pw_below_drewN | apply below_drew1) | exact HB.out)))); (case aL => have := LMc13.out; omega); intro v192 w18 ho hb hg hat; rw [← Ny191.out] at ho; have n0_ := Aside0.mk (Kd.R_after (ok := (fun _ => True)) (by (with_reducible repeat (first | apply Kd.R_alloc | apply Kd.R_drewN | apply Kd.R_drew)); exact HO190.out) hg hat); have n1_ := Aside0.mk (hb); have n2_ := Aside0.mk (ho); clear HO190; clear HB; clear HO187; have HO190 := n0_; have HB := n1_; have HO193 := n2_; clear n0_ n1_ n2_; clear ho hb hg hat; obtain ⟨Ao20, co20, eo20⟩ := Kd.R_slice HO193.out; subst eo20) | ((with_reducible refine gate_callee (f := 49) rfl ?_); refine goesL_ (some 24) rfl rfl Try.func49 (by kernel_rfl) rfl #[.slice Ao20 y191.length co20] rfl (by (try simp only [List.map_toArray, List.map_cons, List.map_nil]); first | done | rfl | (simp only [List.length_drop, List.length_take]; rfl)) ?_; (with_reducible refine (line_Mend.calls _ _ y191 t194 _ ?side1 ?side2 A14.out).mono ?_); (case side1 => repeat (first | exact (Kd.R_reads' HO193.out).2.2 | (with_reducible refine Kd.C_alloc ?_ _) | (with_reducible refine Kd.C_drewN ?_ _) | (with_reducible refine Kd.C_drew ?_))); (case side2 => exact (Kd.R_reads' HO193.out).2.1); rintro e w21 ⟨v195, rfl, ho0, hb⟩; refine ⟨_, rfl, ?_⟩; have n0_ := Aside0.mk (Kd.R_elder' (by (with_reducible repeat (first | apply Kd.R_alloc | apply Kd.R_drewN | apply Kd.R_drew)); exact HO190.out) (Kd.R_base ho0) hb); have n1_ := Aside0.mk (Kd.R_elder' (by (with_reducible repeat (first | apply Kd.R_alloc | apply Kd.R_drewN | apply Kd.R_drew)); exact HO193.out) (Kd.R_base ho0) hb); have n2_ := Aside0.mk (Kd.R_lower (Kd.R_new' (Kd.R_new' ho0 (Kd.R_lt (by (with_reducible repeat (first | apply Kd.R_alloc | apply Kd.R_drewN | apply Kd.R_drew)); exact HO190.out))) (Kd.R_lt (by (with_reducible repeat (first | apply Kd.R_alloc | apply Kd.R_drewN | apply Kd.R_drew)); exact HO193.out))) (below_size (by repeat (first | (with_reducible first | exact HB.out | apply below_alloc | apply pw_below_drewN | apply below_drew1) | exact HB.out)))); have n3_ := Aside0.mk (below_step (by repeat (first | (with_reducible first | exact HB.out | apply below_alloc | apply pw_below_drewN | apply below_drew1) | exact HB.out)) hb); clear HO190; clear HO193; clear HB; have HO190 := n0_; have HO193 := n1_; have HO196 := n2_; have HB := n3_; clear n0_ n1_ n2_ n3_; (try clear hb); (try clear hb2); (try clear hk); (try clear hi); (try clear ho0)))
      go_ret
      exact ⟨_, by first | rfl | (simp [errW_none, errW_some] <;> rfl) | (simp [*, errW_none, errW_some] <;> rfl), by (with_reducible repeat (first | apply Kd.R_alloc | apply Kd.R_drewN | apply Kd.R_drew)); exact Kd.R_mono HO196.out (fun _ hk => trivial), by repeat (first | (with_reducible first | exact HB.out | apply below_alloc | apply pw_below_drewN | apply below_drew1) | exact HB.out)⟩
    · rw [if_neg c13] at H
      exact absurd H (by simp)

/-! ### line_Erase: function 40 -/
def line_Erase.f (k : Nat) (l0 : List (S26)) (a1 : Int) (a2 : Int) (a3_0 : Int) (a3_1 : Int) (a3_2 : Int) : Option ((List (S26))) := (line_blanks.f k (mx 0 (wrap64 ((mn (mx a2 0) (l0.length : Int)) - (mn (mx a1 0) (l0.length : Int))))) a3_0 a3_1 a3_2).bind fun t198 => ((line_laid.f l0 (mn (mx a1 0) (l0.length : Int)) t198).bind fun t201 => (some t201))
theorem line_Erase.mono : ∀ a0 a1 a2 a3 a4 a5 k, LeO (line_Erase.f k a0 a1 a2 a3 a4 a5) (line_Erase.f (k + 1) a0 a1 a2 a3 a4 a5) := by
  intro a0 a1 a2 a3 a4 a5 k
  unfold line_Erase.f
  repeat' first
      | (with_reducible exact line_blanks.mono _ _ _ _ _)
      | (with_reducible exact LeO.refl _)
      | (with_reducible exact LeO.none _)
      | (with_reducible refine LeO.ite ?_ ?_)
      | (with_reducible refine LeO.bind ?_ (fun _ => ?_))
      | exact line_blanks.mono _ _ _ _ _
      | exact LeO.none _
      | refine LeO.ite ?_ ?_
      | refine LeO.bind ?_ (fun _ => ?_)
set_option maxHeartbeats 8000000 in
set_option maxRecDepth 100000 in
theorem line_Erase.calls (k : Nat) (A0 : Option Addr) (c0 : Nat) (l0 : List (S26)) (a1 : Int) (a2 : Int) (a3_0 : Int) (a3_1 : Int) (a3_2 : Int) (r : List (S26)) (w : World) (hr0 : Kd.C k26 w A0 l0.length l0) (hc0 : l0.length ≤ c0) (h : line_Erase.f k l0 a1 a2 a3_0 a3_1 a3_2 = some r) :
    Calls Try.prog 40 #[.slice A0 l0.length c0, .int .i64 a1, .int .i64 a2, .agg #[.int .u8 a3_0, .int .u8 a3_1, .int .u8 a3_2]] w fun e w' => ∃ v0_ : Value, e = .returned (v0_) ∧ Kd.R k26 26 w' w.heap.size (fun _ => True) v0_ r ∧ Below w.heap.size w w' := by
  have hu24 := Try.underlying24
  have HR0 := Aside0.mk hr0
  have HC0 := Aside0.mk hc0
  clear hr0 hc0
  have HB := Aside0.mk (Below.refl w.heap.size w)
  have H : ((line_blanks.f k (mx 0 (wrap64 ((mn (mx a2 0) (l0.length : Int)) - (mn (mx a1 0) (l0.length : Int))))) a3_0 a3_1 a3_2).bind fun t198 => ((line_laid.f l0 (mn (mx a1 0) (l0.length : Int)) t198).bind fun t201 => (some t201))) = some r := h
  clear h
  obtain ⟨ji5, hji5⟩ : ∃ j_ : Int, (mx a1 0) = j_ := ⟨_, rfl⟩
  replace H : ((line_blanks.f k (mx 0 (wrap64 ((mn (mx a2 0) (l0.length : Int)) - (mn (ji5) (l0.length : Int))))) a3_0 a3_1 a3_2).bind fun t198 => ((line_laid.f l0 (mn (ji5) (l0.length : Int)) t198).bind fun t201 => (some t201))) = some r := by first | (rw [hji5] at H; exact H) | (simp only [hji5] at H ⊢; exact H)
  (try (have hji5l : 0 ≤ ji5 := by (rw [← hji5]; unfold mx; (repeat' split) <;> omega)))
  (try (have hji5m : 0 ≤ ji5 := by omega))
  have hji5_ : (if a1 < 0 then 0 else a1) = ji5 := hji5
  obtain ⟨ji6, hji6⟩ : ∃ j_ : Int, (mn (ji5) (l0.length : Int)) = j_ := ⟨_, rfl⟩
  replace H : ((line_blanks.f k (mx 0 (wrap64 ((mn (mx a2 0) (l0.length : Int)) - (ji6)))) a3_0 a3_1 a3_2).bind fun t198 => ((line_laid.f l0 (ji6) t198).bind fun t201 => (some t201))) = some r := by first | (rw [hji6] at H; exact H) | (simp only [hji6] at H ⊢; exact H)
  have hji6_ : (if (l0.length : Int) < (ji5) then (l0.length : Int) else (ji5)) = ji6 := hji6
  obtain ⟨ji7, hji7⟩ : ∃ j_ : Int, (mx a2 0) = j_ := ⟨_, rfl⟩
  replace H : ((line_blanks.f k (mx 0 (wrap64 ((mn (ji7) (l0.length : Int)) - (ji6)))) a3_0 a3_1 a3_2).bind fun t198 => ((line_laid.f l0 (ji6) t198).bind fun t201 => (some t201))) = some r := by first | (rw [hji7] at H; exact H) | (simp only [hji7] at H ⊢; exact H)
  (try (have hji7l : 0 ≤ ji7 := by (rw [← hji7]; unfold mx; (repeat' split) <;> omega)))
  (try (have hji7m : 0 ≤ ji7 := by omega))
  have hji7_ : (if a2 < 0 then 0 else a2) = ji7 := hji7
  obtain ⟨ji8, hji8⟩ : ∃ j_ : Int, (mn (ji7) (l0.length : Int)) = j_ := ⟨_, rfl⟩
  replace H : ((line_blanks.f k (mx 0 (wrap64 ((ji8) - (ji6)))) a3_0 a3_1 a3_2).bind fun t198 => ((line_laid.f l0 (ji6) t198).bind fun t201 => (some t201))) = some r := by first | (rw [hji8] at H; exact H) | (simp only [hji8] at H ⊢; exact H)
  have hji8_ : (if (l0.length : Int) < (ji7) then (l0.length : Int) else (ji7)) = ji8 := hji8
  obtain ⟨ji9, hji9⟩ : ∃ j_ : Int, (mx 0 (wrap64 ((ji8) - (ji6)))) = j_ := ⟨_, rfl⟩
  replace H : ((line_blanks.f k (ji9) a3_0 a3_1 a3_2).bind fun t198 => ((line_laid.f l0 (ji6) t198).bind fun t201 => (some t201))) = some r := by first | (rw [hji9] at H; exact H) | (simp only [hji9] at H ⊢; exact H)
  have hji9_ : (if 0 < (wrap64 ((ji8) - (ji6))) then (wrap64 ((ji8) - (ji6))) else 0) = ji9 := hji9
  replace H := Option.bind_eq_some_iff.mp H
  obtain ⟨t198, A100, H⟩ := H
  replace H : ((line_laid.f l0 (ji6) t198).bind fun t201 => (some t201)) = some r := H
  have A10 := Aside0.mk A100
  clear A100
  replace H := Option.bind_eq_some_iff.mp H
  obtain ⟨t201, A110, H⟩ := H
  replace H : (some t201) = some r := H
  have A11 := Aside0.mk A110
  clear A110
  obtain rfl := Option.some.inj H
  go_enter Try.func40, Try.ntmps40
  go_wp2_with (first | ((with_reducible refine gate_dst (N := 7) rfl ?_); refine box_event ?hg (N := 7) ?hd (cs := #[.int .u8 a3_0, .int .u8 a3_1, .int .u8 a3_2]) (t := 24) ?hr ?_; (case hd => rfl); (case hg => rfl); (case hr => first | (go_simp; done) | (go_simp; rfl)); intro gb197 hg w12 hbox hb; have n0_ := Aside0.mk (below_step (by repeat (first | (with_reducible first | exact HB.out | apply below_alloc | apply pw_below_drewN | apply below_drew1) | exact HB.out)) hb); have n1_ := Aside0.mk (hbox); have n2_ := Aside0.mk ((by rw [hg]; exact (below_size (by repeat (first | (with_reducible first | exact HB.out | apply below_alloc | apply pw_below_drewN | apply below_drew1) | exact HB.out))) : w.heap.size ≤ gb197)); have n3_ := Aside0.mk ((by rw [hg]; exact (below_size (by repeat (first | (with_reducible first | exact HB.out | apply below_alloc | apply pw_below_drewN | apply below_drew1) | exact HB.out))) : w.heap.size ≤ gb197)); clear HB; have HB := n0_; have BK197 := n1_; have GW197 := n2_; have GE197 := n3_; clear n0_ n1_ n2_ n3_; clear hb hbox hg; have hcz13_0 : w12.cell? ⟨gb197, 0, none⟩ = some (.int .u8 a3_0) := (blk_cell BK197.out 0).trans rfl; have hcz13_1 : w12.cell? ⟨gb197, 1, none⟩ = some (.int .u8 a3_1) := (blk_cell BK197.out 1).trans rfl; have hcz13_2 : w12.cell? ⟨gb197, 2, none⟩ = some (.int .u8 a3_2) := (blk_cell BK197.out 2).trans rfl; have hfz13_0 := blk_frozen BK197.out 0; have hfz13_1 := blk_frozen BK197.out 1; have hfz13_2 := blk_frozen BK197.out 2) | ((with_reducible refine gate_callee (f := 99) rfl ?_); refine goesL_ (some 26) rfl rfl Try.func99 (by kernel_rfl) rfl #[.int .i64 ji9, .agg #[.int .u8 a3_0, .int .u8 a3_1, .int .u8 a3_2]] rfl (by (try simp only [List.map_toArray, List.map_cons, List.map_nil]); first | done | (simp only [hji9]; rfl) | rfl | (simp only [List.length_drop, List.length_take]; rfl)) ?_; (with_reducible refine (line_blanks.calls k ji9 a3_0 a3_1 a3_2 t198 _ A10.out).mono ?_); rintro e w14 ⟨v199, rfl, ho0, hb⟩; refine ⟨_, rfl, ?_⟩; have n0_ := Aside0.mk (Kd.R_lower ho0 (below_size (by repeat (first | (with_reducible first | exact HB.out | apply below_alloc | apply pw_below_drewN | apply below_drew1 | refine below_set ?_ GE197.out) | exact HB.out)))); have n1_ := Aside0.mk (blk_below (g := gb197) (o := .cells #[.int .u8 a3_0, .int .u8 a3_1, .int .u8 a3_2] 24 (0, 0)) (by (with_reducible repeat (first | refine blk_drewN ?_ _ | refine blk_drew ?_ | refine blk_alloc ?_ _)); exact BK197.out) hb); have n2_ := Aside0.mk (below_step (by repeat (first | (with_reducible first | exact HB.out | apply below_alloc | apply pw_below_drewN | apply below_drew1 | refine below_set ?_ GE197.out) | exact HB.out)) hb); clear BK197; clear HB; have HO200 := n0_; have BK197 := n1_; have HB := n2_; clear n0_ n1_ n2_; (try clear hb); (try clear hb2); (try clear hk); (try clear hi); (try clear ho0); obtain ⟨Ao15, co15, eo15⟩ := Kd.R_slice HO200.out; subst eo15) | ((with_reducible refine gate_callee (f := 96) rfl ?_); refine goesL_ (some 27) rfl rfl Try.func96 (by kernel_rfl) rfl #[.slice A0 l0.length c0, .int .i64 ji6, .slice Ao15 t198.length co15] rfl (by (try simp only [List.map_toArray, List.map_cons, List.map_nil]); first | done | (simp only [hji6]; rfl) | rfl | (simp only [List.length_drop, List.length_take]; rfl)) ?_; (with_reducible refine (line_laid.calls _ _ l0 ji6 _ _ t198 t201 _ ?side1 ?side2 ?side3 ?side4 A11.out).mono ?_); (case side1 => repeat (first | exact (Kd.C_below HR0.out HB.out) | (with_reducible refine Kd.C_alloc ?_ _) | (with_reducible refine Kd.C_drewN ?_ _) | (with_reducible refine Kd.C_drew ?_))); (case side2 => exact HC0.out); (case side3 => repeat (first | exact (Kd.R_reads' HO200.out).2.2 | (with_reducible refine Kd.C_alloc ?_ _) | (with_reducible refine Kd.C_drewN ?_ _) | (with_reducible refine Kd.C_drew ?_))); (case side4 => exact (Kd.R_reads' HO200.out).2.1); rintro e w16 ⟨v202, rfl, ho0, hb⟩; refine ⟨_, rfl, ?_⟩; have n0_ := Aside0.mk (Kd.R_elder' (by (with_reducible repeat (first | apply Kd.R_alloc | apply Kd.R_drewN | apply Kd.R_drew)); exact HO200.out) (Kd.R_base ho0) hb); have n1_ := Aside0.mk (Kd.R_lower (Kd.R_new' ho0 (Kd.R_lt (by (with_reducible repeat (first | apply Kd.R_alloc | apply Kd.R_drewN | apply Kd.R_drew)); exact HO200.out))) (below_size (by repeat (first | (with_reducible first | exact HB.out | apply below_alloc | apply pw_below_drewN | apply below_drew1 | refine below_set ?_ GE197.out) | exact HB.out)))); have n2_ := Aside0.mk (blk_below (g := gb197) (o := .cells #[.int .u8 a3_0, .int .u8 a3_1, .int .u8 a3_2] 24 (0, 0)) (by (with_reducible repeat (first | refine blk_drewN ?_ _ | refine blk_drew ?_ | refine blk_alloc ?_ _)); exact BK197.out) hb); have n3_ := Aside0.mk (below_step (by repeat (first | (with_reducible first | exact HB.out | apply below_alloc | apply pw_below_drewN | apply below_drew1 | refine below_set ?_ GE197.out) | exact HB.out)) hb); clear HO200; clear BK197; clear HB; have HO200 := n0_; have HO203 := n1_; have BK197 := n2_; have HB := n3_; clear n0_ n1_ n2_ n3_; (try clear hb); (try clear hb2); (try clear hk); (try clear hi); (try clear ho0)))
  go_ret
  exact ⟨_, by first | rfl | (simp [errW_none, errW_some] <;> rfl) | (simp only [← hji5, ← hji6, ← hji7, ← hji8, ← hji9]; first | rfl | (simp [errW_none, errW_some] <;> rfl)) | (simp [*, errW_none, errW_some] <;> rfl), by (with_reducible repeat (first | apply Kd.R_alloc | apply Kd.R_drewN | apply Kd.R_drew)); exact Kd.R_mono HO203.out (fun _ hk => trivial), by repeat (first | (with_reducible first | exact HB.out | apply below_alloc | apply pw_below_drewN | apply below_drew1 | refine below_set ?_ GE197.out) | exact HB.out)⟩

/-! ### cell_Of: function 14 -/
def cell_Of.f (a0 : Int) (a1_0 : Int) (a1_1 : Int) (a1_2 : Int) : Option (Int × Int × Int × Int × Int × Int × Int × Bool) := (width_Of.f a0).bind fun t206 => (if t206 < 1 then (some (0, 0, 0, 0, 0, 0, 0, false)) else (some (a0, 0, 0, (t206) % 256, a1_0, a1_1, a1_2, true)))
set_option maxHeartbeats 8000000 in
set_option maxRecDepth 100000 in
theorem cell_Of.calls (a0 : Int) (a1_0 : Int) (a1_1 : Int) (a1_2 : Int) (r1 : Int) (r2 : Int) (r3 : Int) (r4 : Int) (r5 : Int) (r6 : Int) (r7 : Int) (r8 : Bool) (w : World) (h : cell_Of.f a0 a1_0 a1_1 a1_2 = some (r1, r2, r3, r4, r5, r6, r7, r8)) :
    Calls Try.prog 14 #[.int .i32 a0, .agg #[.int .u8 a1_0, .int .u8 a1_1, .int .u8 a1_2]] w fun e w' => e = .returned (.tuple #[.agg #[.int .i32 r1, .int .i32 r2, .int .i32 r3, .int .u8 r4, .int .u8 r5, .int .u8 r6, .int .u8 r7], .bool r8]) ∧ Below w.heap.size w w' := by
  have hu24 := Try.underlying24
  have hu26 := Try.underlying26
  have HB := Aside0.mk (Below.refl w.heap.size w)
  have H : ((width_Of.f a0).bind fun t206 => (if t206 < 1 then (some (0, 0, 0, 0, 0, 0, 0, false)) else (some (a0, 0, 0, (t206) % 256, a1_0, a1_1, a1_2, true)))) = some (r1, r2, r3, r4, r5, r6, r7, r8) := h
  clear h
  replace H := Option.bind_eq_some_iff.mp H
  obtain ⟨t206, A30, H⟩ := H
  replace H : (if t206 < 1 then (some (0, 0, 0, 0, 0, 0, 0, false)) else (some (a0, 0, 0, (t206) % 256, a1_0, a1_1, a1_2, true))) = some (r1, r2, r3, r4, r5, r6, r7, r8) := H
  have A3 := Aside0.mk A30
  clear A30
  by_cases c4 : t206 < 1
  · rw [if_pos c4] at H
    have c4b0 : decide (t206 < 1) = true := decide_eq_true c4
    clear c4
    simp only [Option.some.injEq, Prod.mk.injEq] at H
    obtain ⟨rfl, rfl, rfl, rfl, rfl, rfl, rfl, rfl⟩ := H
    go_enter Try.func14, Try.ntmps14
    go_wp2_with (first | ((with_reducible refine gate_dst (N := 3) rfl ?_); refine box_event ?hg (N := 3) ?hd (cs := #[.int .u8 a1_0, .int .u8 a1_1, .int .u8 a1_2]) (t := 24) ?hr ?_; (case hd => rfl); (case hg => rfl); (case hr => first | (go_simp; done) | (go_simp; rfl)); intro gb204 hg w5 hbox hb; have n0_ := Aside0.mk (below_step (by repeat (first | (with_reducible first | exact HB.out | apply below_alloc | apply pw_below_drewN | apply below_drew1) | exact HB.out)) hb); have n1_ := Aside0.mk (hbox); have n2_ := Aside0.mk ((by rw [hg]; exact (below_size (by repeat (first | (with_reducible first | exact HB.out | apply below_alloc | apply pw_below_drewN | apply below_drew1) | exact HB.out))) : w.heap.size ≤ gb204)); have n3_ := Aside0.mk ((by rw [hg]; exact (below_size (by repeat (first | (with_reducible first | exact HB.out | apply below_alloc | apply pw_below_drewN | apply below_drew1) | exact HB.out))) : w.heap.size ≤ gb204)); clear HB; have HB := n0_; have BK204 := n1_; have GW204 := n2_; have GE204 := n3_; clear n0_ n1_ n2_ n3_; clear hb hbox hg) | ((with_reducible refine gate_dst (N := 4) rfl ?_); refine box_event ?hg (N := 4) ?hd (cs := #[.int .i32 0, .int .i32 0, .int .i32 0, .int .u8 0, .int .u8 0, .int .u8 0, .int .u8 0]) (t := 26) ?hr ?_; (case hd => rfl); (case hg => rfl); (case hr => first | (go_simp; done) | (go_simp; rfl)); intro gb205 hg w6 hbox hb; have n0_ := Aside0.mk (blk_below (g := gb204) (o := .cells #[.int .u8 a1_0, .int .u8 a1_1, .int .u8 a1_2] 24 (0, 0)) (by (with_reducible repeat (first | refine blk_drewN ?_ _ | refine blk_drew ?_ | refine blk_alloc ?_ _)); exact BK204.out) hb); have n1_ := Aside0.mk (below_step (by repeat (first | (with_reducible first | exact HB.out | apply below_alloc | apply pw_below_drewN | apply below_drew1 | refine below_set ?_ GE204.out) | exact HB.out)) hb); have n2_ := Aside0.mk (hbox); have n3_ := Aside0.mk ((by rw [hg]; exact (below_size (by repeat (first | (with_reducible first | exact HB.out | apply below_alloc | apply pw_below_drewN | apply below_drew1 | refine below_set ?_ GE204.out) | exact HB.out))) : w.heap.size ≤ gb205)); have n4_ := Aside0.mk ((by rw [hg]; exact (below_size (by repeat (first | (with_reducible first | exact HB.out | apply below_alloc | apply pw_below_drewN | apply below_drew1 | refine below_set ?_ GE204.out) | exact HB.out))) : w.heap.size ≤ gb205)); have n5_ := Aside0.mk ((by rw [hg]; exact Nat.ne_of_lt (blk_lt (g := gb204) (o := .cells #[.int .u8 a1_0, .int .u8 a1_1, .int .u8 a1_2] 24 (0, 0)) (by (with_reducible repeat (first | refine blk_drewN ?_ _ | refine blk_drew ?_ | refine blk_alloc ?_ _)); exact BK204.out)) : gb204 ≠ gb205)); have n6_ := Aside0.mk ((by rw [hg]; exact Nat.ne_of_gt (blk_lt (g := gb204) (o := .cells #[.int .u8 a1_0, .int .u8 a1_1, .int .u8 a1_2] 24 (0, 0)) (by (with_reducible repeat (first | refine blk_drewN ?_ _ | refine blk_drew ?_ | refine blk_alloc ?_ _)); exact BK204.out)) : gb205 ≠ gb204)); clear BK204; clear HB; have BK204 := n0_; have HB := n1_; have BK205 := n2_; have GW205 := n3_; have GE205 := n4_; have NB204_205 := n5_; have NB205_204 := n6_; clear n0_ n1_ n2_ n3_ n4_ n5_ n6_; clear hb hbox hg) | ((with_reducible refine gate_callee (f := 84) rfl ?_); refine goesL_ (some 8) rfl rfl Try.func84 (by kernel_rfl) rfl #[.int .i32 a0] rfl (by (try simp only [List.map_toArray, List.map_cons, List.map_nil]); first | done | rfl | (simp only [List.length_drop, List.length_take]; rfl)) ?_; (with_reducible refine (width_Of.calls a0 t206 _ A3.out).mono ?_); rintro e w7 ⟨rfl, hb⟩; refine ⟨_, rfl, ?_⟩; have n0_ := Aside0.mk (blk_below (g := gb204) (o := .cells #[.int .u8 a1_0, .int .u8 a1_1, .int .u8 a1_2] 24 (0, 0)) (by (with_reducible repeat (first | refine blk_drewN ?_ _ | refine blk_drew ?_ | refine blk_alloc ?_ _)); exact BK204.out) hb); have n1_ := Aside0.mk (blk_below (g := gb205) (o := .cells #[.int .i32 0, .int .i32 0, .int .i32 0, .int .u8 0, .int .u8 0, .int .u8 0, .int .u8 0] 26 (0, 0)) (by (with_reducible repeat (first | refine blk_drewN ?_ _ | refine blk_drew ?_ | refine blk_alloc ?_ _)); exact BK205.out) hb); have n2_ := Aside0.mk (below_step (by repeat (first | (with_reducible first | exact HB.out | apply below_alloc | apply pw_below_drewN | apply below_drew1 | refine below_set ?_ GE204.out | refine below_set ?_ GE205.out) | exact HB.out)) hb); clear BK204; clear BK205; clear HB; have BK204 := n0_; have BK205 := n1_; have HB := n2_; clear n0_ n1_ n2_; (try clear hb); (try clear hb2); (try clear hk); (try clear hi); have hnb8 := NB205_204.out; have hnc8 := NB204_205.out; have hcz9_0 : w7.cell? ⟨gb205, 0, none⟩ = some (.int .i32 0) := (blk_cell BK205.out 0).trans rfl; have hcz9_1 : w7.cell? ⟨gb205, 1, none⟩ = some (.int .i32 0) := (blk_cell BK205.out 1).trans rfl; have hcz9_2 : w7.cell? ⟨gb205, 2, none⟩ = some (.int .i32 0) := (blk_cell BK205.out 2).trans rfl; have hcz9_3 : w7.cell? ⟨gb205, 3, none⟩ = some (.int .u8 0) := (blk_cell BK205.out 3).trans rfl; have hcz9_4 : w7.cell? ⟨gb205, 4, none⟩ = some (.int .u8 0) := (blk_cell BK205.out 4).trans rfl; have hcz9_5 : w7.cell? ⟨gb205, 5, none⟩ = some (.int .u8 0) := (blk_cell BK205.out 5).trans rfl; have hcz9_6 : w7.cell? ⟨gb205, 6, none⟩ = some (.int .u8 0) := (blk_cell BK205.out 6).trans rfl; have hfz9_0 := blk_frozen BK205.out 0; have hfz9_1 := blk_frozen BK205.out 1; have hfz9_2 := blk_frozen BK205.out 2; have hfz9_3 := blk_frozen BK205.out 3; have hfz9_4 := blk_frozen BK205.out 4; have hfz9_5 := blk_frozen BK205.out 5; have hfz9_6 := blk_frozen BK205.out 6))
    refine bodyPost_ret (results_ct rfl _ _ gb205 26 #[.int .i32 0, .int .i32 0, .int .i32 0, .int .u8 0, .int .u8 0, .int .u8 0, .int .u8 0] (0, 0) _ rfl (by (with_reducible repeat (first | refine blk_drewN ?_ _ | refine blk_drew ?_ | refine blk_alloc ?_ _)); refine blk_put (cs := #[.int .i32 0, .int .i32 0, .int .i32 0, .int .u8 0, .int .u8 0, .int .u8 0, .int .u8 0]) ?_ 6 _ rfl; (with_reducible repeat (first | refine blk_drewN ?_ _ | refine blk_drew ?_ | refine blk_alloc ?_ _)); refine blk_put (cs := #[.int .i32 0, .int .i32 0, .int .i32 0, .int .u8 0, .int .u8 0, .int .u8 0, .int .u8 0]) ?_ 5 _ rfl; (with_reducible repeat (first | refine blk_drewN ?_ _ | refine blk_drew ?_ | refine blk_alloc ?_ _)); refine blk_put (cs := #[.int .i32 0, .int .i32 0, .int .i32 0, .int .u8 0, .int .u8 0, .int .u8 0, .int .u8 0]) ?_ 4 _ rfl; (with_reducible repeat (first | refine blk_drewN ?_ _ | refine blk_drew ?_ | refine blk_alloc ?_ _)); refine blk_put (cs := #[.int .i32 0, .int .i32 0, .int .i32 0, .int .u8 0, .int .u8 0, .int .u8 0, .int .u8 0]) ?_ 3 _ rfl; (with_reducible repeat (first | refine blk_drewN ?_ _ | refine blk_drew ?_ | refine blk_alloc ?_ _)); refine blk_put (cs := #[.int .i32 0, .int .i32 0, .int .i32 0, .int .u8 0, .int .u8 0, .int .u8 0, .int .u8 0]) ?_ 2 _ rfl; (with_reducible repeat (first | refine blk_drewN ?_ _ | refine blk_drew ?_ | refine blk_alloc ?_ _)); refine blk_put (cs := #[.int .i32 0, .int .i32 0, .int .i32 0, .int .u8 0, .int .u8 0, .int .u8 0, .int .u8 0]) ?_ 1 _ rfl; (with_reducible repeat (first | refine blk_drewN ?_ _ | refine blk_drew ?_ | refine blk_alloc ?_ _)); refine blk_put (cs := #[.int .i32 0, .int .i32 0, .int .i32 0, .int .u8 0, .int .u8 0, .int .u8 0, .int .u8 0]) ?_ 0 _ rfl; (with_reducible repeat (first | refine blk_drewN ?_ _ | refine blk_drew ?_ | refine blk_alloc ?_ _)); exact BK205.out) Try.underlying26 rfl (by kernel_rfl)) rfl ?_
    exact ⟨by first | rfl | (simp [errW_none, errW_some] <;> rfl) | (simp [*, errW_none, errW_some] <;> rfl), by repeat (first | (with_reducible first | exact HB.out | apply below_alloc | apply pw_below_drewN | apply below_drew1 | refine below_set ?_ GE204.out | refine below_set ?_ GE205.out) | exact HB.out)⟩
  · rw [if_neg c4] at H
    have c4b0 : decide (t206 < 1) = false := decide_eq_false c4
    clear c4
    simp only [Option.some.injEq, Prod.mk.injEq] at H
    obtain ⟨rfl, rfl, rfl, rfl, rfl, rfl, rfl, rfl⟩ := H
    go_enter Try.func14, Try.ntmps14
    go_wp2_with (first | ((with_reducible refine gate_dst (N := 3) rfl ?_); refine box_event ?hg (N := 3) ?hd (cs := #[.int .u8 a1_0, .int .u8 a1_1, .int .u8 a1_2]) (t := 24) ?hr ?_; (case hd => rfl); (case hg => rfl); (case hr => first | (go_simp; done) | (go_simp; rfl)); intro gb204 hg w10 hbox hb; have n0_ := Aside0.mk (below_step (by repeat (first | (with_reducible first | exact HB.out | apply below_alloc | apply pw_below_drewN | apply below_drew1) | exact HB.out)) hb); have n1_ := Aside0.mk (hbox); have n2_ := Aside0.mk ((by rw [hg]; exact (below_size (by repeat (first | (with_reducible first | exact HB.out | apply below_alloc | apply pw_below_drewN | apply below_drew1) | exact HB.out))) : w.heap.size ≤ gb204)); have n3_ := Aside0.mk ((by rw [hg]; exact (below_size (by repeat (first | (with_reducible first | exact HB.out | apply below_alloc | apply pw_below_drewN | apply below_drew1) | exact HB.out))) : w.heap.size ≤ gb204)); clear HB; have HB := n0_; have BK204 := n1_; have GW204 := n2_; have GE204 := n3_; clear n0_ n1_ n2_ n3_; clear hb hbox hg) | ((with_reducible refine gate_dst (N := 4) rfl ?_); refine box_event ?hg (N := 4) ?hd (cs := #[.int .i32 0, .int .i32 0, .int .i32 0, .int .u8 0, .int .u8 0, .int .u8 0, .int .u8 0]) (t := 26) ?hr ?_; (case hd => rfl); (case hg => rfl); (case hr => first | (go_simp; done) | (go_simp; rfl)); intro gb205 hg w11 hbox hb; have n0_ := Aside0.mk (blk_below (g := gb204) (o := .cells #[.int .u8 a1_0, .int .u8 a1_1, .int .u8 a1_2] 24 (0, 0)) (by (with_reducible repeat (first | refine blk_drewN ?_ _ | refine blk_drew ?_ | refine blk_alloc ?_ _)); exact BK204.out) hb); have n1_ := Aside0.mk (below_step (by repeat (first | (with_reducible first | exact HB.out | apply below_alloc | apply pw_below_drewN | apply below_drew1 | refine below_set ?_ GE204.out) | exact HB.out)) hb); have n2_ := Aside0.mk (hbox); have n3_ := Aside0.mk ((by rw [hg]; exact (below_size (by repeat (first | (with_reducible first | exact HB.out | apply below_alloc | apply pw_below_drewN | apply below_drew1 | refine below_set ?_ GE204.out) | exact HB.out))) : w.heap.size ≤ gb205)); have n4_ := Aside0.mk ((by rw [hg]; exact (below_size (by repeat (first | (with_reducible first | exact HB.out | apply below_alloc | apply pw_below_drewN | apply below_drew1 | refine below_set ?_ GE204.out) | exact HB.out))) : w.heap.size ≤ gb205)); have n5_ := Aside0.mk ((by rw [hg]; exact Nat.ne_of_lt (blk_lt (g := gb204) (o := .cells #[.int .u8 a1_0, .int .u8 a1_1, .int .u8 a1_2] 24 (0, 0)) (by (with_reducible repeat (first | refine blk_drewN ?_ _ | refine blk_drew ?_ | refine blk_alloc ?_ _)); exact BK204.out)) : gb204 ≠ gb205)); have n6_ := Aside0.mk ((by rw [hg]; exact Nat.ne_of_gt (blk_lt (g := gb204) (o := .cells #[.int .u8 a1_0, .int .u8 a1_1, .int .u8 a1_2] 24 (0, 0)) (by (with_reducible repeat (first | refine blk_drewN ?_ _ | refine blk_drew ?_ | refine blk_alloc ?_ _)); exact BK204.out)) : gb205 ≠ gb204)); clear BK204; clear HB; have BK204 := n0_; have HB := n1_; have BK205 := n2_; have GW205 := n3_; have GE205 := n4_; have NB204_205 := n5_; have NB205_204 := n6_; clear n0_ n1_ n2_ n3_ n4_ n5_ n6_; clear hb hbox hg) | ((with_reducible refine gate_callee (f := 84) rfl ?_); refine goesL_ (some 8) rfl rfl Try.func84 (by kernel_rfl) rfl #[.int .i32 a0] rfl (by (try simp only [List.map_toArray, List.map_cons, List.map_nil]); first | done | rfl | (simp only [List.length_drop, List.length_take]; rfl)) ?_; (with_reducible refine (width_Of.calls a0 t206 _ A3.out).mono ?_); rintro e w12 ⟨rfl, hb⟩; refine ⟨_, rfl, ?_⟩; have n0_ := Aside0.mk (blk_below (g := gb204) (o := .cells #[.int .u8 a1_0, .int .u8 a1_1, .int .u8 a1_2] 24 (0, 0)) (by (with_reducible repeat (first | refine blk_drewN ?_ _ | refine blk_drew ?_ | refine blk_alloc ?_ _)); exact BK204.out) hb); have n1_ := Aside0.mk (blk_below (g := gb205) (o := .cells #[.int .i32 0, .int .i32 0, .int .i32 0, .int .u8 0, .int .u8 0, .int .u8 0, .int .u8 0] 26 (0, 0)) (by (with_reducible repeat (first | refine blk_drewN ?_ _ | refine blk_drew ?_ | refine blk_alloc ?_ _)); exact BK205.out) hb); have n2_ := Aside0.mk (below_step (by repeat (first | (with_reducible first | exact HB.out | apply below_alloc | apply pw_below_drewN | apply below_drew1 | refine below_set ?_ GE204.out | refine below_set ?_ GE205.out) | exact HB.out)) hb); clear BK204; clear BK205; clear HB; have BK204 := n0_; have BK205 := n1_; have HB := n2_; clear n0_ n1_ n2_; (try clear hb); (try clear hb2); (try clear hk); (try clear hi); have hnb13 := NB204_205.out; have hnc13 := NB205_204.out; have hcz14_0 : w12.cell? ⟨gb204, 0, none⟩ = some (.int .u8 a1_0) := (blk_cell BK204.out 0).trans rfl; have hcz14_1 : w12.cell? ⟨gb204, 1, none⟩ = some (.int .u8 a1_1) := (blk_cell BK204.out 1).trans rfl; have hcz14_2 : w12.cell? ⟨gb204, 2, none⟩ = some (.int .u8 a1_2) := (blk_cell BK204.out 2).trans rfl; have hfz14_0 := blk_frozen BK204.out 0; have hfz14_1 := blk_frozen BK204.out 1; have hfz14_2 := blk_frozen BK204.out 2; have hcz15_0 : w12.cell? ⟨gb205, 0, none⟩ = some (.int .i32 0) := (blk_cell BK205.out 0).trans rfl; have hcz15_1 : w12.cell? ⟨gb205, 1, none⟩ = some (.int .i32 0) := (blk_cell BK205.out 1).trans rfl; have hcz15_2 : w12.cell? ⟨gb205, 2, none⟩ = some (.int .i32 0) := (blk_cell BK205.out 2).trans rfl; have hcz15_3 : w12.cell? ⟨gb205, 3, none⟩ = some (.int .u8 0) := (blk_cell BK205.out 3).trans rfl; have hcz15_4 : w12.cell? ⟨gb205, 4, none⟩ = some (.int .u8 0) := (blk_cell BK205.out 4).trans rfl; have hcz15_5 : w12.cell? ⟨gb205, 5, none⟩ = some (.int .u8 0) := (blk_cell BK205.out 5).trans rfl; have hcz15_6 : w12.cell? ⟨gb205, 6, none⟩ = some (.int .u8 0) := (blk_cell BK205.out 6).trans rfl; have hfz15_0 := blk_frozen BK205.out 0; have hfz15_1 := blk_frozen BK205.out 1; have hfz15_2 := blk_frozen BK205.out 2; have hfz15_3 := blk_frozen BK205.out 3; have hfz15_4 := blk_frozen BK205.out 4; have hfz15_5 := blk_frozen BK205.out 5; have hfz15_6 := blk_frozen BK205.out 6))
    refine bodyPost_ret (results_ct rfl _ _ gb205 26 #[.int .i32 a0, .int .i32 0, .int .i32 0, .int .u8 ((t206) % 256), .int .u8 a1_0, .int .u8 a1_1, .int .u8 a1_2] (0, 0) _ rfl (by (with_reducible repeat (first | refine blk_drewN ?_ _ | refine blk_drew ?_ | refine blk_alloc ?_ _)); refine blk_put (cs := #[.int .i32 a0, .int .i32 0, .int .i32 0, .int .u8 ((t206) % 256), .int .u8 a1_0, .int .u8 a1_1, .int .u8 0]) ?_ 6 _ rfl; (with_reducible repeat (first | refine blk_drewN ?_ _ | refine blk_drew ?_ | refine blk_alloc ?_ _)); refine blk_put (cs := #[.int .i32 a0, .int .i32 0, .int .i32 0, .int .u8 ((t206) % 256), .int .u8 a1_0, .int .u8 0, .int .u8 0]) ?_ 5 _ rfl; (with_reducible repeat (first | refine blk_drewN ?_ _ | refine blk_drew ?_ | refine blk_alloc ?_ _)); refine blk_put (cs := #[.int .i32 a0, .int .i32 0, .int .i32 0, .int .u8 ((t206) % 256), .int .u8 0, .int .u8 0, .int .u8 0]) ?_ 4 _ rfl; (with_reducible repeat (first | refine blk_drewN ?_ _ | refine blk_drew ?_ | refine blk_alloc ?_ _)); refine blk_put (cs := #[.int .i32 a0, .int .i32 0, .int .i32 0, .int .u8 0, .int .u8 0, .int .u8 0, .int .u8 0]) ?_ 3 _ rfl; (with_reducible repeat (first | refine blk_drewN ?_ _ | refine blk_drew ?_ | refine blk_alloc ?_ _)); refine blk_put (cs := #[.int .i32 a0, .int .i32 0, .int .i32 0, .int .u8 0, .int .u8 0, .int .u8 0, .int .u8 0]) ?_ 2 _ rfl; (with_reducible repeat (first | refine blk_drewN ?_ _ | refine blk_drew ?_ | refine blk_alloc ?_ _)); refine blk_put (cs := #[.int .i32 a0, .int .i32 0, .int .i32 0, .int .u8 0, .int .u8 0, .int .u8 0, .int .u8 0]) ?_ 1 _ rfl; (with_reducible repeat (first | refine blk_drewN ?_ _ | refine blk_drew ?_ | refine blk_alloc ?_ _)); refine blk_put (cs := #[.int .i32 0, .int .i32 0, .int .i32 0, .int .u8 0, .int .u8 0, .int .u8 0, .int .u8 0]) ?_ 0 _ rfl; (with_reducible repeat (first | refine blk_drewN ?_ _ | refine blk_drew ?_ | refine blk_alloc ?_ _)); exact BK205.out) Try.underlying26 rfl (by kernel_rfl)) rfl ?_
    exact ⟨by first | rfl | (simp [errW_none, errW_some] <;> rfl) | (simp [*, errW_none, errW_some] <;> rfl), by repeat (first | (with_reducible first | exact HB.out | apply below_alloc | apply pw_below_drewN | apply below_drew1 | refine below_set ?_ GE204.out | refine below_set ?_ GE205.out) | exact HB.out)⟩

/-! ### line_New: function 51 -/
def line_New.f (k : Nat) (a0 : Int) : Option ((List (S26))) := (line_length.f a0).bind fun t207 => ((line_blanks.f k t207 0 0 0).bind fun t208 => (some t208))
theorem line_New.mono : ∀ a0 k, LeO (line_New.f k a0) (line_New.f (k + 1) a0) := by
  intro a0 k
  unfold line_New.f
  repeat' first
      | (with_reducible exact line_blanks.mono _ _ _ _ _)
      | (with_reducible exact LeO.refl _)
      | (with_reducible exact LeO.none _)
      | (with_reducible refine LeO.ite ?_ ?_)
      | (with_reducible refine LeO.bind ?_ (fun _ => ?_))
      | exact line_blanks.mono _ _ _ _ _
      | exact LeO.none _
      | refine LeO.ite ?_ ?_
      | refine LeO.bind ?_ (fun _ => ?_)
set_option maxHeartbeats 8000000 in
set_option maxRecDepth 100000 in
theorem line_New.calls (k : Nat) (a0 : Int) (r : List (S26)) (w : World) (h : line_New.f k a0 = some r) :
    Calls Try.prog 51 #[.int .i64 a0] w fun e w' => ∃ v0_ : Value, e = .returned (v0_) ∧ Kd.R k26 26 w' w.heap.size (fun _ => True) v0_ r ∧ Below w.heap.size w w' := by
  have hu24 := Try.underlying24
  have HB := Aside0.mk (Below.refl w.heap.size w)
  have H : ((line_length.f a0).bind fun t207 => ((line_blanks.f k t207 0 0 0).bind fun t208 => (some t208))) = some r := h
  clear h
  replace H := Option.bind_eq_some_iff.mp H
  obtain ⟨t207, A20, H⟩ := H
  replace H : ((line_blanks.f k t207 0 0 0).bind fun t208 => (some t208)) = some r := H
  have A2 := Aside0.mk A20
  clear A20
  replace H := Option.bind_eq_some_iff.mp H
  obtain ⟨t208, A30, H⟩ := H
  replace H : (some t208) = some r := H
  have A3 := Aside0.mk A30
  clear A30
  obtain rfl := Option.some.inj H
  go_enter Try.func51, Try.ntmps51
  go_wp2_with (first | ((with_reducible refine gate_callee (f := 98) rfl ?_); refine goesL_ (some 4) rfl rfl Try.func98 (by kernel_rfl) rfl #[.int .i64 a0] rfl (by (try simp only [List.map_toArray, List.map_cons, List.map_nil]); first | done | rfl | (simp only [List.length_drop, List.length_take]; rfl)) ?_; (with_reducible refine (line_length.calls a0 t207 _ A2.out).mono ?_); rintro e w4 ⟨rfl, hb⟩; refine ⟨_, rfl, ?_⟩; have n0_ := Aside0.mk (below_step (by repeat (first | (with_reducible first | exact HB.out | apply below_alloc | apply pw_below_drewN | apply below_drew1) | exact HB.out)) hb); clear HB; have HB := n0_; clear n0_; (try clear hb); (try clear hb2); (try clear hk); (try clear hi)) | ((with_reducible refine gate_callee (f := 99) rfl ?_); refine goesL_ (some 6) rfl rfl Try.func99 (by kernel_rfl) rfl #[.int .i64 t207, .agg #[.int .u8 0, .int .u8 0, .int .u8 0]] rfl (by (try simp only [List.map_toArray, List.map_cons, List.map_nil]); first | done | rfl | (simp only [List.length_drop, List.length_take]; rfl)) ?_; (with_reducible refine (line_blanks.calls k t207 0 0 0 t208 _ A3.out).mono ?_); rintro e w5 ⟨v209, rfl, ho0, hb⟩; refine ⟨_, rfl, ?_⟩; have n0_ := Aside0.mk (Kd.R_lower ho0 (below_size (by repeat (first | (with_reducible first | exact HB.out | apply below_alloc | apply pw_below_drewN | apply below_drew1) | exact HB.out)))); have n1_ := Aside0.mk (below_step (by repeat (first | (with_reducible first | exact HB.out | apply below_alloc | apply pw_below_drewN | apply below_drew1) | exact HB.out)) hb); clear HB; have HO210 := n0_; have HB := n1_; clear n0_ n1_; (try clear hb); (try clear hb2); (try clear hk); (try clear hi); (try clear ho0)))
  go_ret
  exact ⟨_, by first | rfl | (simp [errW_none, errW_some] <;> rfl) | (simp [*, errW_none, errW_some] <;> rfl), by (with_reducible repeat (first | apply Kd.R_alloc | apply Kd.R_drewN | apply Kd.R_drew)); exact HO210.out, by repeat (first | (with_reducible first | exact HB.out | apply below_alloc | apply pw_below_drewN | apply below_drew1) | exact HB.out)⟩

/-! ### prolepsislaw06_knownB: function 41 -/
def prolepsislaw06_knownB.f (k : Nat)  : Option (Bool) := (cell_Of.f 12354 0 0 0).bind fun bt211 => ((cell_Of.f 97 0 0 0).bind fun bt220 => ((cell_Blank.f 0 0 0).bind fun bt229 => ((line_New.f k 4).bind fun t237 => ((line_Put.f k t237 1 bt211.1 bt211.2.1 bt211.2.2.1 bt211.2.2.2.1 bt211.2.2.2.2.1 bt211.2.2.2.2.2.1 bt211.2.2.2.2.2.2.1).bind fun bt240 => ((line_Put.f k bt240.1 2 bt220.1 bt220.2.1 bt220.2.2.1 bt220.2.2.2.1 bt220.2.2.2.2.1 bt220.2.2.2.2.2.1 bt220.2.2.2.2.2.2.1).bind fun bt244 => (if bt240.2 = true then ((cell_Rest.f bt211.1 bt211.2.1 bt211.2.2.1 bt211.2.2.2.1 bt211.2.2.2.2.1 bt211.2.2.2.2.2.1 bt211.2.2.2.2.2.2.1).bind fun bt248 => ((line_Same.f k bt240.1 (([(⟨bt229.1, (⟨bt229.2.1, bt229.2.2.1⟩ : S22), bt229.2.2.2.1, (⟨bt229.2.2.2.2.1, bt229.2.2.2.2.2.1, bt229.2.2.2.2.2.2⟩ : S24)⟩ : S26), (⟨bt211.1, (⟨bt211.2.1, bt211.2.2.1⟩ : S22), bt211.2.2.2.1, (⟨bt211.2.2.2.2.1, bt211.2.2.2.2.2.1, bt211.2.2.2.2.2.2.1⟩ : S24)⟩ : S26), (⟨bt248.1, (⟨bt248.2.1, bt248.2.2.1⟩ : S22), bt248.2.2.2.1, (⟨bt248.2.2.2.2.1, bt248.2.2.2.2.2.1, bt248.2.2.2.2.2.2⟩ : S24)⟩ : S26), (⟨bt229.1, (⟨bt229.2.1, bt229.2.2.1⟩ : S22), bt229.2.2.2.1, (⟨bt229.2.2.2.2.1, bt229.2.2.2.2.2.1, bt229.2.2.2.2.2.2⟩ : S24)⟩ : S26)] : List (S26)))).bind fun t258 => (if t258 = true then (if bt244.2 = true then ((line_Same.f k bt244.1 (([(⟨bt229.1, (⟨bt229.2.1, bt229.2.2.1⟩ : S22), bt229.2.2.2.1, (⟨bt229.2.2.2.2.1, bt229.2.2.2.2.2.1, bt229.2.2.2.2.2.2⟩ : S24)⟩ : S26), (⟨bt229.1, (⟨bt229.2.1, bt229.2.2.1⟩ : S22), bt229.2.2.2.1, (⟨bt229.2.2.2.2.1, bt229.2.2.2.2.2.1, bt229.2.2.2.2.2.2⟩ : S24)⟩ : S26), (⟨bt220.1, (⟨bt220.2.1, bt220.2.2.1⟩ : S22), bt220.2.2.2.1, (⟨bt220.2.2.2.2.1, bt220.2.2.2.2.2.1, bt220.2.2.2.2.2.2.1⟩ : S24)⟩ : S26), (⟨bt229.1, (⟨bt229.2.1, bt229.2.2.1⟩ : S22), bt229.2.2.2.1, (⟨bt229.2.2.2.2.1, bt229.2.2.2.2.2.1, bt229.2.2.2.2.2.2⟩ : S24)⟩ : S26)] : List (S26)))).bind fun t262 => (if t262 = true then (some (bt229.1 == 32)) else (some false))) else (some false)) else (some false)))) else (some false)))))))
theorem prolepsislaw06_knownB.mono : ∀ k, LeO (prolepsislaw06_knownB.f k ) (prolepsislaw06_knownB.f (k + 1) ) := by
  intro  k
  unfold prolepsislaw06_knownB.f
  repeat' first
      | (with_reducible exact line_New.mono _ _)
      | (with_reducible exact line_Put.mono _ _ _ _ _ _ _ _ _ _)
      | (with_reducible exact line_Same.mono _ _ _)
      | (with_reducible exact LeO.refl _)
      | (with_reducible exact LeO.none _)
      | (with_reducible refine LeO.ite ?_ ?_)
      | (with_reducible refine LeO.bind ?_ (fun _ => ?_))
      | exact line_New.mono _ _
      | exact line_Put.mono _ _ _ _ _ _ _ _ _ _
      | exact line_Same.mono _ _ _
      | exact LeO.none _
      | refine LeO.ite ?_ ?_
      | refine LeO.bind ?_ (fun _ => ?_)
def prolepsislaw06_knownB.T4 : Bool × List (List Nat × List Nat) := (true, [([], []), ([], []), ([0, 1, 0], [0, 1]), ([2], [2]), ([3], [3]), ([3], [3]), ([4, 2, 0, 1, 2, 3, 4], [4]), ([5, 6, 0, 1, 2, 3, 4, 5, 6], [5])])
def prolepsislaw06_knownB.B4 : List Nat := [0, 0, 3, 7, 15, 15, 31, 127]
theorem prolepsislaw06_knownB.tab4 : rtab .any (opsOf Try.f41 4) = prolepsislaw06_knownB.T4 := by kernel_rfl
theorem prolepsislaw06_knownB.bits4 : waitsOk prolepsislaw06_knownB.T4.2 prolepsislaw06_knownB.B4 = true := by kernel_rfl
def prolepsislaw06_knownB.T6 : Bool × List (List Nat × List Nat) := (true, [([], []), ([0], [0]), ([1], [1]), ([1], [1]), ([1], [1]), ([1], [1]), ([5, 1, 1], [1, 5]), ([1], [1]), ([3, 4, 6, 7, 1], [1, 3, 4, 6, 7]), ([2, 8, 6, 1], [1, 2, 8]), ([1, 9], [1, 9]), ([10, 9], [10]), ([11], [11]), ([11, 12], [11, 12]), ([13, 11], [13]), ([14], [14]), ([14], [14]), ([14], [14]), ([14], [14]), ([14], [14]), ([16, 17, 18, 19, 14], [14, 16, 17, 18, 19]), ([15, 20, 14, 14], [14, 15, 20]), ([14, 21], [14, 21]), ([22, 21], [22]), ([23], [23]), ([24, 23], [23, 24]), ([25, 23], [23, 25]), ([23, 26], [23, 26]), ([27, 23, 0, 1, 2, 3, 4, 5, 6, 7, 8, 9, 10, 11, 12, 13, 14, 15, 16, 17, 18, 19, 20, 21, 22, 23, 24, 25, 26, 27], [27])])
def prolepsislaw06_knownB.B6 : List Nat := [0, 1, 3, 3, 3, 3, 35, 3, 251, 511, 1023, 2047, 4095, 8191, 16383, 32767, 32767, 32767, 32767, 32767, 1015807, 2097151, 4194303, 8388607, 16777215, 33554431, 67108863, 134217727, 268435455]
theorem prolepsislaw06_knownB.tab6 : rtab .any (opsOf Try.f41 6) = prolepsislaw06_knownB.T6 := by kernel_rfl
theorem prolepsislaw06_knownB.bits6 : waitsOk prolepsislaw06_knownB.T6.2 prolepsislaw06_knownB.B6 = true := by kernel_rfl
set_option maxHeartbeats 8000000 in
set_option maxRecDepth 100000 in
theorem prolepsislaw06_knownB.calls (k : Nat)  (r : Bool) (w : World) (h : prolepsislaw06_knownB.f k  = some r) (hr : r = true) :
    Calls Try.prog 41 #[] w fun e w' => e = .returned (.bool r) ∧ Below w.heap.size w w' := by
  have HRT := Aside0.mk hr
  clear hr
  have hu24 := Try.underlying24
  have hu26 := Try.underlying26
  have HB := Aside0.mk (Below.refl w.heap.size w)
  have H : ((cell_Of.f 12354 0 0 0).bind fun bt211 => ((cell_Of.f 97 0 0 0).bind fun bt220 => ((cell_Blank.f 0 0 0).bind fun bt229 => ((line_New.f k 4).bind fun t237 => ((line_Put.f k t237 1 bt211.1 bt211.2.1 bt211.2.2.1 bt211.2.2.2.1 bt211.2.2.2.2.1 bt211.2.2.2.2.2.1 bt211.2.2.2.2.2.2.1).bind fun bt240 => ((line_Put.f k bt240.1 2 bt220.1 bt220.2.1 bt220.2.2.1 bt220.2.2.2.1 bt220.2.2.2.2.1 bt220.2.2.2.2.2.1 bt220.2.2.2.2.2.2.1).bind fun bt244 => (if bt240.2 = true then ((cell_Rest.f bt211.1 bt211.2.1 bt211.2.2.1 bt211.2.2.2.1 bt211.2.2.2.2.1 bt211.2.2.2.2.2.1 bt211.2.2.2.2.2.2.1).bind fun bt248 => ((line_Same.f k bt240.1 (([(⟨bt229.1, (⟨bt229.2.1, bt229.2.2.1⟩ : S22), bt229.2.2.2.1, (⟨bt229.2.2.2.2.1, bt229.2.2.2.2.2.1, bt229.2.2.2.2.2.2⟩ : S24)⟩ : S26), (⟨bt211.1, (⟨bt211.2.1, bt211.2.2.1⟩ : S22), bt211.2.2.2.1, (⟨bt211.2.2.2.2.1, bt211.2.2.2.2.2.1, bt211.2.2.2.2.2.2.1⟩ : S24)⟩ : S26), (⟨bt248.1, (⟨bt248.2.1, bt248.2.2.1⟩ : S22), bt248.2.2.2.1, (⟨bt248.2.2.2.2.1, bt248.2.2.2.2.2.1, bt248.2.2.2.2.2.2⟩ : S24)⟩ : S26), (⟨bt229.1, (⟨bt229.2.1, bt229.2.2.1⟩ : S22), bt229.2.2.2.1, (⟨bt229.2.2.2.2.1, bt229.2.2.2.2.2.1, bt229.2.2.2.2.2.2⟩ : S24)⟩ : S26)] : List (S26)))).bind fun t258 => (if t258 = true then (if bt244.2 = true then ((line_Same.f k bt244.1 (([(⟨bt229.1, (⟨bt229.2.1, bt229.2.2.1⟩ : S22), bt229.2.2.2.1, (⟨bt229.2.2.2.2.1, bt229.2.2.2.2.2.1, bt229.2.2.2.2.2.2⟩ : S24)⟩ : S26), (⟨bt229.1, (⟨bt229.2.1, bt229.2.2.1⟩ : S22), bt229.2.2.2.1, (⟨bt229.2.2.2.2.1, bt229.2.2.2.2.2.1, bt229.2.2.2.2.2.2⟩ : S24)⟩ : S26), (⟨bt220.1, (⟨bt220.2.1, bt220.2.2.1⟩ : S22), bt220.2.2.2.1, (⟨bt220.2.2.2.2.1, bt220.2.2.2.2.2.1, bt220.2.2.2.2.2.2.1⟩ : S24)⟩ : S26), (⟨bt229.1, (⟨bt229.2.1, bt229.2.2.1⟩ : S22), bt229.2.2.2.1, (⟨bt229.2.2.2.2.1, bt229.2.2.2.2.2.1, bt229.2.2.2.2.2.2⟩ : S24)⟩ : S26)] : List (S26)))).bind fun t262 => (if t262 = true then (some (bt229.1 == 32)) else (some false))) else (some false)) else (some false)))) else (some false)))))))) = some r := h
  clear h
  replace H := Option.bind_eq_some_iff.mp H
  obtain ⟨⟨t211, t212, t213, t214, t215, t216, t217, t218⟩, A10, H⟩ := H
  replace H : ((cell_Of.f 97 0 0 0).bind fun bt220 => ((cell_Blank.f 0 0 0).bind fun bt229 => ((line_New.f k 4).bind fun t237 => ((line_Put.f k t237 1 t211 t212 t213 t214 t215 t216 t217).bind fun bt240 => ((line_Put.f k bt240.1 2 bt220.1 bt220.2.1 bt220.2.2.1 bt220.2.2.2.1 bt220.2.2.2.2.1 bt220.2.2.2.2.2.1 bt220.2.2.2.2.2.2.1).bind fun bt244 => (if bt240.2 = true then ((cell_Rest.f t211 t212 t213 t214 t215 t216 t217).bind fun bt248 => ((line_Same.f k bt240.1 (([(⟨bt229.1, (⟨bt229.2.1, bt229.2.2.1⟩ : S22), bt229.2.2.2.1, (⟨bt229.2.2.2.2.1, bt229.2.2.2.2.2.1, bt229.2.2.2.2.2.2⟩ : S24)⟩ : S26), (⟨t211, (⟨t212, t213⟩ : S22), t214, (⟨t215, t216, t217⟩ : S24)⟩ : S26), (⟨bt248.1, (⟨bt248.2.1, bt248.2.2.1⟩ : S22), bt248.2.2.2.1, (⟨bt248.2.2.2.2.1, bt248.2.2.2.2.2.1, bt248.2.2.2.2.2.2⟩ : S24)⟩ : S26), (⟨bt229.1, (⟨bt229.2.1, bt229.2.2.1⟩ : S22), bt229.2.2.2.1, (⟨bt229.2.2.2.2.1, bt229.2.2.2.2.2.1, bt229.2.2.2.2.2.2⟩ : S24)⟩ : S26)] : List (S26)))).bind fun t258 => (if t258 = true then (if bt244.2 = true then ((line_Same.f k bt244.1 (([(⟨bt229.1, (⟨bt229.2.1, bt229.2.2.1⟩ : S22), bt229.2.2.2.1, (⟨bt229.2.2.2.2.1, bt229.2.2.2.2.2.1, bt229.2.2.2.2.2.2⟩ : S24)⟩ : S26), (⟨bt229.1, (⟨bt229.2.1, bt229.2.2.1⟩ : S22), bt229.2.2.2.1, (⟨bt229.2.2.2.2.1, bt229.2.2.2.2.2.1, bt229.2.2.2.2.2.2⟩ : S24)⟩ : S26), (⟨bt220.1, (⟨bt220.2.1, bt220.2.2.1⟩ : S22), bt220.2.2.2.1, (⟨bt220.2.2.2.2.1, bt220.2.2.2.2.2.1, bt220.2.2.2.2.2.2.1⟩ : S24)⟩ : S26), (⟨bt229.1, (⟨bt229.2.1, bt229.2.2.1⟩ : S22), bt229.2.2.2.1, (⟨bt229.2.2.2.2.1, bt229.2.2.2.2.2.1, bt229.2.2.2.2.2.2⟩ : S24)⟩ : S26)] : List (S26)))).bind fun t262 => (if t262 = true then (some (bt229.1 == 32)) else (some false))) else (some false)) else (some false)))) else (some false))))))) = some r := H
  have A1 := Aside0.mk A10
  clear A10
  replace H := Option.bind_eq_some_iff.mp H
  obtain ⟨⟨t220, t221, t222, t223, t224, t225, t226, t227⟩, A20, H⟩ := H
  replace H : ((cell_Blank.f 0 0 0).bind fun bt229 => ((line_New.f k 4).bind fun t237 => ((line_Put.f k t237 1 t211 t212 t213 t214 t215 t216 t217).bind fun bt240 => ((line_Put.f k bt240.1 2 t220 t221 t222 t223 t224 t225 t226).bind fun bt244 => (if bt240.2 = true then ((cell_Rest.f t211 t212 t213 t214 t215 t216 t217).bind fun bt248 => ((line_Same.f k bt240.1 (([(⟨bt229.1, (⟨bt229.2.1, bt229.2.2.1⟩ : S22), bt229.2.2.2.1, (⟨bt229.2.2.2.2.1, bt229.2.2.2.2.2.1, bt229.2.2.2.2.2.2⟩ : S24)⟩ : S26), (⟨t211, (⟨t212, t213⟩ : S22), t214, (⟨t215, t216, t217⟩ : S24)⟩ : S26), (⟨bt248.1, (⟨bt248.2.1, bt248.2.2.1⟩ : S22), bt248.2.2.2.1, (⟨bt248.2.2.2.2.1, bt248.2.2.2.2.2.1, bt248.2.2.2.2.2.2⟩ : S24)⟩ : S26), (⟨bt229.1, (⟨bt229.2.1, bt229.2.2.1⟩ : S22), bt229.2.2.2.1, (⟨bt229.2.2.2.2.1, bt229.2.2.2.2.2.1, bt229.2.2.2.2.2.2⟩ : S24)⟩ : S26)] : List (S26)))).bind fun t258 => (if t258 = true then (if bt244.2 = true then ((line_Same.f k bt244.1 (([(⟨bt229.1, (⟨bt229.2.1, bt229.2.2.1⟩ : S22), bt229.2.2.2.1, (⟨bt229.2.2.2.2.1, bt229.2.2.2.2.2.1, bt229.2.2.2.2.2.2⟩ : S24)⟩ : S26), (⟨bt229.1, (⟨bt229.2.1, bt229.2.2.1⟩ : S22), bt229.2.2.2.1, (⟨bt229.2.2.2.2.1, bt229.2.2.2.2.2.1, bt229.2.2.2.2.2.2⟩ : S24)⟩ : S26), (⟨t220, (⟨t221, t222⟩ : S22), t223, (⟨t224, t225, t226⟩ : S24)⟩ : S26), (⟨bt229.1, (⟨bt229.2.1, bt229.2.2.1⟩ : S22), bt229.2.2.2.1, (⟨bt229.2.2.2.2.1, bt229.2.2.2.2.2.1, bt229.2.2.2.2.2.2⟩ : S24)⟩ : S26)] : List (S26)))).bind fun t262 => (if t262 = true then (some (bt229.1 == 32)) else (some false))) else (some false)) else (some false)))) else (some false)))))) = some r := H
  have A2 := Aside0.mk A20
  clear A20
  replace H := Option.bind_eq_some_iff.mp H
  obtain ⟨⟨t229, t230, t231, t232, t233, t234, t235⟩, A30, H⟩ := H
  replace H : ((line_New.f k 4).bind fun t237 => ((line_Put.f k t237 1 t211 t212 t213 t214 t215 t216 t217).bind fun bt240 => ((line_Put.f k bt240.1 2 t220 t221 t222 t223 t224 t225 t226).bind fun bt244 => (if bt240.2 = true then ((cell_Rest.f t211 t212 t213 t214 t215 t216 t217).bind fun bt248 => ((line_Same.f k bt240.1 (([(⟨t229, (⟨t230, t231⟩ : S22), t232, (⟨t233, t234, t235⟩ : S24)⟩ : S26), (⟨t211, (⟨t212, t213⟩ : S22), t214, (⟨t215, t216, t217⟩ : S24)⟩ : S26), (⟨bt248.1, (⟨bt248.2.1, bt248.2.2.1⟩ : S22), bt248.2.2.2.1, (⟨bt248.2.2.2.2.1, bt248.2.2.2.2.2.1, bt248.2.2.2.2.2.2⟩ : S24)⟩ : S26), (⟨t229, (⟨t230, t231⟩ : S22), t232, (⟨t233, t234, t235⟩ : S24)⟩ : S26)] : List (S26)))).bind fun t258 => (if t258 = true then (if bt244.2 = true then ((line_Same.f k bt244.1 (([(⟨t229, (⟨t230, t231⟩ : S22), t232, (⟨t233, t234, t235⟩ : S24)⟩ : S26), (⟨t229, (⟨t230, t231⟩ : S22), t232, (⟨t233, t234, t235⟩ : S24)⟩ : S26), (⟨t220, (⟨t221, t222⟩ : S22), t223, (⟨t224, t225, t226⟩ : S24)⟩ : S26), (⟨t229, (⟨t230, t231⟩ : S22), t232, (⟨t233, t234, t235⟩ : S24)⟩ : S26)] : List (S26)))).bind fun t262 => (if t262 = true then (some (t229 == 32)) else (some false))) else (some false)) else (some false)))) else (some false))))) = some r := H
  have A3 := Aside0.mk A30
  clear A30
  replace H := Option.bind_eq_some_iff.mp H
  obtain ⟨t237, A40, H⟩ := H
  replace H : ((line_Put.f k t237 1 t211 t212 t213 t214 t215 t216 t217).bind fun bt240 => ((line_Put.f k bt240.1 2 t220 t221 t222 t223 t224 t225 t226).bind fun bt244 => (if bt240.2 = true then ((cell_Rest.f t211 t212 t213 t214 t215 t216 t217).bind fun bt248 => ((line_Same.f k bt240.1 (([(⟨t229, (⟨t230, t231⟩ : S22), t232, (⟨t233, t234, t235⟩ : S24)⟩ : S26), (⟨t211, (⟨t212, t213⟩ : S22), t214, (⟨t215, t216, t217⟩ : S24)⟩ : S26), (⟨bt248.1, (⟨bt248.2.1, bt248.2.2.1⟩ : S22), bt248.2.2.2.1, (⟨bt248.2.2.2.2.1, bt248.2.2.2.2.2.1, bt248.2.2.2.2.2.2⟩ : S24)⟩ : S26), (⟨t229, (⟨t230, t231⟩ : S22), t232, (⟨t233, t234, t235⟩ : S24)⟩ : S26)] : List (S26)))).bind fun t258 => (if t258 = true then (if bt244.2 = true then ((line_Same.f k bt244.1 (([(⟨t229, (⟨t230, t231⟩ : S22), t232, (⟨t233, t234, t235⟩ : S24)⟩ : S26), (⟨t229, (⟨t230, t231⟩ : S22), t232, (⟨t233, t234, t235⟩ : S24)⟩ : S26), (⟨t220, (⟨t221, t222⟩ : S22), t223, (⟨t224, t225, t226⟩ : S24)⟩ : S26), (⟨t229, (⟨t230, t231⟩ : S22), t232, (⟨t233, t234, t235⟩ : S24)⟩ : S26)] : List (S26)))).bind fun t262 => (if t262 = true then (some (t229 == 32)) else (some false))) else (some false)) else (some false)))) else (some false)))) = some r := H
  have A4 := Aside0.mk A40
  clear A40
  replace H := Option.bind_eq_some_iff.mp H
  obtain ⟨⟨t240, t243⟩, A50, H⟩ := H
  replace H : ((line_Put.f k t240 2 t220 t221 t222 t223 t224 t225 t226).bind fun bt244 => (if t243 = true then ((cell_Rest.f t211 t212 t213 t214 t215 t216 t217).bind fun bt248 => ((line_Same.f k t240 (([(⟨t229, (⟨t230, t231⟩ : S22), t232, (⟨t233, t234, t235⟩ : S24)⟩ : S26), (⟨t211, (⟨t212, t213⟩ : S22), t214, (⟨t215, t216, t217⟩ : S24)⟩ : S26), (⟨bt248.1, (⟨bt248.2.1, bt248.2.2.1⟩ : S22), bt248.2.2.2.1, (⟨bt248.2.2.2.2.1, bt248.2.2.2.2.2.1, bt248.2.2.2.2.2.2⟩ : S24)⟩ : S26), (⟨t229, (⟨t230, t231⟩ : S22), t232, (⟨t233, t234, t235⟩ : S24)⟩ : S26)] : List (S26)))).bind fun t258 => (if t258 = true then (if bt244.2 = true then ((line_Same.f k bt244.1 (([(⟨t229, (⟨t230, t231⟩ : S22), t232, (⟨t233, t234, t235⟩ : S24)⟩ : S26), (⟨t229, (⟨t230, t231⟩ : S22), t232, (⟨t233, t234, t235⟩ : S24)⟩ : S26), (⟨t220, (⟨t221, t222⟩ : S22), t223, (⟨t224, t225, t226⟩ : S24)⟩ : S26), (⟨t229, (⟨t230, t231⟩ : S22), t232, (⟨t233, t234, t235⟩ : S24)⟩ : S26)] : List (S26)))).bind fun t262 => (if t262 = true then (some (t229 == 32)) else (some false))) else (some false)) else (some false)))) else (some false))) = some r := H
  have A5 := Aside0.mk A50
  clear A50
  replace H := Option.bind_eq_some_iff.mp H
  obtain ⟨⟨t244, t247⟩, A60, H⟩ := H
  replace H : (if t243 = true then ((cell_Rest.f t211 t212 t213 t214 t215 t216 t217).bind fun bt248 => ((line_Same.f k t240 (([(⟨t229, (⟨t230, t231⟩ : S22), t232, (⟨t233, t234, t235⟩ : S24)⟩ : S26), (⟨t211, (⟨t212, t213⟩ : S22), t214, (⟨t215, t216, t217⟩ : S24)⟩ : S26), (⟨bt248.1, (⟨bt248.2.1, bt248.2.2.1⟩ : S22), bt248.2.2.2.1, (⟨bt248.2.2.2.2.1, bt248.2.2.2.2.2.1, bt248.2.2.2.2.2.2⟩ : S24)⟩ : S26), (⟨t229, (⟨t230, t231⟩ : S22), t232, (⟨t233, t234, t235⟩ : S24)⟩ : S26)] : List (S26)))).bind fun t258 => (if t258 = true then (if t247 = true then ((line_Same.f k t244 (([(⟨t229, (⟨t230, t231⟩ : S22), t232, (⟨t233, t234, t235⟩ : S24)⟩ : S26), (⟨t229, (⟨t230, t231⟩ : S22), t232, (⟨t233, t234, t235⟩ : S24)⟩ : S26), (⟨t220, (⟨t221, t222⟩ : S22), t223, (⟨t224, t225, t226⟩ : S24)⟩ : S26), (⟨t229, (⟨t230, t231⟩ : S22), t232, (⟨t233, t234, t235⟩ : S24)⟩ : S26)] : List (S26)))).bind fun t262 => (if t262 = true then (some (t229 == 32)) else (some false))) else (some false)) else (some false)))) else (some false)) = some r := H
  have A6 := Aside0.mk A60
  clear A60
  by_cases c7 : t243 = true
  · subst c7
    have H1 : ((cell_Rest.f t211 t212 t213 t214 t215 t216 t217).bind fun bt248 => ((line_Same.f k t240 (([(⟨t229, (⟨t230, t231⟩ : S22), t232, (⟨t233, t234, t235⟩ : S24)⟩ : S26), (⟨t211, (⟨t212, t213⟩ : S22), t214, (⟨t215, t216, t217⟩ : S24)⟩ : S26), (⟨bt248.1, (⟨bt248.2.1, bt248.2.2.1⟩ : S22), bt248.2.2.2.1, (⟨bt248.2.2.2.2.1, bt248.2.2.2.2.2.1, bt248.2.2.2.2.2.2⟩ : S24)⟩ : S26), (⟨t229, (⟨t230, t231⟩ : S22), t232, (⟨t233, t234, t235⟩ : S24)⟩ : S26)] : List (S26)))).bind fun t258 => (if t258 = true then (if t247 = true then ((line_Same.f k t244 (([(⟨t229, (⟨t230, t231⟩ : S22), t232, (⟨t233, t234, t235⟩ : S24)⟩ : S26), (⟨t229, (⟨t230, t231⟩ : S22), t232, (⟨t233, t234, t235⟩ : S24)⟩ : S26), (⟨t220, (⟨t221, t222⟩ : S22), t223, (⟨t224, t225, t226⟩ : S24)⟩ : S26), (⟨t229, (⟨t230, t231⟩ : S22), t232, (⟨t233, t234, t235⟩ : S24)⟩ : S26)] : List (S26)))).bind fun t262 => (if t262 = true then (some (t229 == 32)) else (some false))) else (some false)) else (some false)))) = some r := by rw [if_pos rfl] at H; exact H
    clear H
    have H := H1
    clear H1
    replace H := Option.bind_eq_some_iff.mp H
    obtain ⟨⟨t248, t249, t250, t251, t252, t253, t254⟩, A80, H⟩ := H
    replace H : ((line_Same.f k t240 (([(⟨t229, (⟨t230, t231⟩ : S22), t232, (⟨t233, t234, t235⟩ : S24)⟩ : S26), (⟨t211, (⟨t212, t213⟩ : S22), t214, (⟨t215, t216, t217⟩ : S24)⟩ : S26), (⟨t248, (⟨t249, t250⟩ : S22), t251, (⟨t252, t253, t254⟩ : S24)⟩ : S26), (⟨t229, (⟨t230, t231⟩ : S22), t232, (⟨t233, t234, t235⟩ : S24)⟩ : S26)] : List (S26)))).bind fun t258 => (if t258 = true then (if t247 = true then ((line_Same.f k t244 (([(⟨t229, (⟨t230, t231⟩ : S22), t232, (⟨t233, t234, t235⟩ : S24)⟩ : S26), (⟨t229, (⟨t230, t231⟩ : S22), t232, (⟨t233, t234, t235⟩ : S24)⟩ : S26), (⟨t220, (⟨t221, t222⟩ : S22), t223, (⟨t224, t225, t226⟩ : S24)⟩ : S26), (⟨t229, (⟨t230, t231⟩ : S22), t232, (⟨t233, t234, t235⟩ : S24)⟩ : S26)] : List (S26)))).bind fun t262 => (if t262 = true then (some (t229 == 32)) else (some false))) else (some false)) else (some false))) = some r := H
    have A8 := Aside0.mk A80
    clear A80
    obtain ⟨y255, hy255⟩ : ∃ y_ : List (S26), y_ = (([(⟨t229, (⟨t230, t231⟩ : S22), t232, (⟨t233, t234, t235⟩ : S24)⟩ : S26), (⟨t211, (⟨t212, t213⟩ : S22), t214, (⟨t215, t216, t217⟩ : S24)⟩ : S26), (⟨t248, (⟨t249, t250⟩ : S22), t251, (⟨t252, t253, t254⟩ : S24)⟩ : S26), (⟨t229, (⟨t230, t231⟩ : S22), t232, (⟨t233, t234, t235⟩ : S24)⟩ : S26)] : List (S26))) := ⟨_, rfl⟩
    replace H : ((line_Same.f k t240 y255).bind fun t258 => (if t258 = true then (if t247 = true then ((line_Same.f k t244 (([(⟨t229, (⟨t230, t231⟩ : S22), t232, (⟨t233, t234, t235⟩ : S24)⟩ : S26), (⟨t229, (⟨t230, t231⟩ : S22), t232, (⟨t233, t234, t235⟩ : S24)⟩ : S26), (⟨t220, (⟨t221, t222⟩ : S22), t223, (⟨t224, t225, t226⟩ : S24)⟩ : S26), (⟨t229, (⟨t230, t231⟩ : S22), t232, (⟨t233, t234, t235⟩ : S24)⟩ : S26)] : List (S26)))).bind fun t262 => (if t262 = true then (some (t229 == 32)) else (some false))) else (some false)) else (some false))) = some r := by first | (rw [hy255]; with_reducible exact H) | (have H2_ := (Option.bind_some _ _).symm.trans H; rw [hy255]; with_reducible exact H2_) | (have H2_ := (Option.bind_some _ _).symm.trans H; with_reducible exact H2_) | with_reducible exact H | (rw [hy255]; exact H) | exact H
    have Ny255 := Aside0.mk hy255
    clear hy255
    replace H := Option.bind_eq_some_iff.mp H
    obtain ⟨t258, A90, H⟩ := H
    replace H : (if t258 = true then (if t247 = true then ((line_Same.f k t244 (([(⟨t229, (⟨t230, t231⟩ : S22), t232, (⟨t233, t234, t235⟩ : S24)⟩ : S26), (⟨t229, (⟨t230, t231⟩ : S22), t232, (⟨t233, t234, t235⟩ : S24)⟩ : S26), (⟨t220, (⟨t221, t222⟩ : S22), t223, (⟨t224, t225, t226⟩ : S24)⟩ : S26), (⟨t229, (⟨t230, t231⟩ : S22), t232, (⟨t233, t234, t235⟩ : S24)⟩ : S26)] : List (S26)))).bind fun t262 => (if t262 = true then (some (t229 == 32)) else (some false))) else (some false)) else (some false)) = some r := H
    have A9 := Aside0.mk A90
    clear A90
    by_cases c10 : t258 = true
    · subst c10
      have H1 : (if t247 = true then ((line_Same.f k t244 (([(⟨t229, (⟨t230, t231⟩ : S22), t232, (⟨t233, t234, t235⟩ : S24)⟩ : S26), (⟨t229, (⟨t230, t231⟩ : S22), t232, (⟨t233, t234, t235⟩ : S24)⟩ : S26), (⟨t220, (⟨t221, t222⟩ : S22), t223, (⟨t224, t225, t226⟩ : S24)⟩ : S26), (⟨t229, (⟨t230, t231⟩ : S22), t232, (⟨t233, t234, t235⟩ : S24)⟩ : S26)] : List (S26)))).bind fun t262 => (if t262 = true then (some (t229 == 32)) else (some false))) else (some false)) = some r := by rw [if_pos rfl] at H; exact H
      clear H
      have H := H1
      clear H1
      by_cases c11 : t247 = true
      · subst c11
        have H1 : ((line_Same.f k t244 (([(⟨t229, (⟨t230, t231⟩ : S22), t232, (⟨t233, t234, t235⟩ : S24)⟩ : S26), (⟨t229, (⟨t230, t231⟩ : S22), t232, (⟨t233, t234, t235⟩ : S24)⟩ : S26), (⟨t220, (⟨t221, t222⟩ : S22), t223, (⟨t224, t225, t226⟩ : S24)⟩ : S26), (⟨t229, (⟨t230, t231⟩ : S22), t232, (⟨t233, t234, t235⟩ : S24)⟩ : S26)] : List (S26)))).bind fun t262 => (if t262 = true then (some (t229 == 32)) else (some false))) = some r := by rw [if_pos rfl] at H; exact H
        clear H
        have H := H1
        clear H1
        obtain ⟨y259, hy259⟩ : ∃ y_ : List (S26), y_ = (([(⟨t229, (⟨t230, t231⟩ : S22), t232, (⟨t233, t234, t235⟩ : S24)⟩ : S26), (⟨t229, (⟨t230, t231⟩ : S22), t232, (⟨t233, t234, t235⟩ : S24)⟩ : S26), (⟨t220, (⟨t221, t222⟩ : S22), t223, (⟨t224, t225, t226⟩ : S24)⟩ : S26), (⟨t229, (⟨t230, t231⟩ : S22), t232, (⟨t233, t234, t235⟩ : S24)⟩ : S26)] : List (S26))) := ⟨_, rfl⟩
        replace H : ((line_Same.f k t244 y259).bind fun t262 => (if t262 = true then (some (t229 == 32)) else (some false))) = some r := by first | (rw [hy259]; with_reducible exact H) | (have H2_ := (Option.bind_some _ _).symm.trans H; rw [hy259]; with_reducible exact H2_) | (have H2_ := (Option.bind_some _ _).symm.trans H; with_reducible exact H2_) | with_reducible exact H | (rw [hy259]; exact H) | exact H
        have Ny259 := Aside0.mk hy259
        clear hy259
        replace H := Option.bind_eq_some_iff.mp H
        obtain ⟨t262, A120, H⟩ := H
        replace H : (if t262 = true then (some (t229 == 32)) else (some false)) = some r := H
        have A12 := Aside0.mk A120
        clear A120
        by_cases c13 : t262 = true
        · subst c13
          have H1 : (some (t229 == 32)) = some r := by rw [if_pos rfl] at H; exact H
          clear H
          have H := H1
          clear H1
          obtain rfl := Option.some.inj H
          go_enter Try.func41, Try.ntmps41
          try go_wp2_with (first | ((with_reducible refine gate_callee (f := 14) rfl ?_); refine goesL_ (some 12) rfl rfl Try.func14 (by kernel_rfl) rfl #[.int .i32 12354, .agg #[.int .u8 0, .int .u8 0, .int .u8 0]] rfl (by (try simp only [List.map_toArray, List.map_cons, List.map_nil]); first | done | rfl | (simp only [List.length_drop, List.length_take]; rfl)) ?_; (with_reducible refine (cell_Of.calls 12354 0 0 0 t211 t212 t213 t214 t215 t216 t217 t218 _ A1.out).mono ?_); rintro e w14 ⟨rfl, hb⟩; refine ⟨_, rfl, ?_⟩; have n0_ := Aside0.mk (below_step (by repeat (first | (with_reducible first | exact HB.out | apply below_alloc | apply pw_below_drewN | apply below_drew1) | exact HB.out)) hb); clear HB; have HB := n0_; clear n0_; (try clear hb); (try clear hb2); (try clear hk); (try clear hi)) | ((with_reducible refine gate_dst (N := 1) rfl ?_); (try (refine gate_guard (by rfl) ?_; dsimp only)); refine box_event ?hg (N := 1) ?hd (cs := #[.int .i32 0, .int .i32 0, .int .i32 0, .int .u8 0, .int .u8 0, .int .u8 0, .int .u8 0]) (t := 26) ?hr ?_; (case hd => rfl); (case hg => rfl); (case hr => first | (go_simp; done) | (go_simp; rfl)); intro gb219 hg w15 hbox hb; have n0_ := Aside0.mk (below_step (by repeat (first | (with_reducible first | exact HB.out | apply below_alloc | apply pw_below_drewN | apply below_drew1) | exact HB.out)) hb); have n1_ := Aside0.mk (hbox); have n2_ := Aside0.mk ((by rw [hg]; exact (below_size (by repeat (first | (with_reducible first | exact HB.out | apply below_alloc | apply pw_below_drewN | apply below_drew1) | exact HB.out))) : w.heap.size ≤ gb219)); have n3_ := Aside0.mk ((by rw [hg]; exact (below_size (by repeat (first | (with_reducible first | exact HB.out | apply below_alloc | apply pw_below_drewN | apply below_drew1) | exact HB.out))) : w.heap.size ≤ gb219)); clear HB; have HB := n0_; have BK219 := n1_; have GW219 := n2_; have GE219 := n3_; clear n0_ n1_ n2_ n3_; clear hb hbox hg; have hcz16_0 : w15.cell? ⟨gb219, 0, none⟩ = some (.int .i32 0) := (blk_cell BK219.out 0).trans rfl; have hcz16_1 : w15.cell? ⟨gb219, 1, none⟩ = some (.int .i32 0) := (blk_cell BK219.out 1).trans rfl; have hcz16_2 : w15.cell? ⟨gb219, 2, none⟩ = some (.int .i32 0) := (blk_cell BK219.out 2).trans rfl; have hcz16_3 : w15.cell? ⟨gb219, 3, none⟩ = some (.int .u8 0) := (blk_cell BK219.out 3).trans rfl; have hcz16_4 : w15.cell? ⟨gb219, 4, none⟩ = some (.int .u8 0) := (blk_cell BK219.out 4).trans rfl; have hcz16_5 : w15.cell? ⟨gb219, 5, none⟩ = some (.int .u8 0) := (blk_cell BK219.out 5).trans rfl; have hcz16_6 : w15.cell? ⟨gb219, 6, none⟩ = some (.int .u8 0) := (blk_cell BK219.out 6).trans rfl; have hfz16_0 := blk_frozen BK219.out 0; have hfz16_1 := blk_frozen BK219.out 1; have hfz16_2 := blk_frozen BK219.out 2; have hfz16_3 := blk_frozen BK219.out 3; have hfz16_4 := blk_frozen BK219.out 4; have hfz16_5 := blk_frozen BK219.out 5; have hfz16_6 := blk_frozen BK219.out 6) | ((with_reducible refine gate_callee (f := 14) rfl ?_); refine goesL_ (some 17) rfl rfl Try.func14 (by kernel_rfl) rfl #[.int .i32 97, .agg #[.int .u8 0, .int .u8 0, .int .u8 0]] rfl (by (try simp only [List.map_toArray, List.map_cons, List.map_nil]); first | done | rfl | (simp only [List.length_drop, List.length_take]; rfl)) ?_; (with_reducible refine (cell_Of.calls 97 0 0 0 t220 t221 t222 t223 t224 t225 t226 t227 _ A2.out).mono ?_); rintro e w17 ⟨rfl, hb⟩; refine ⟨_, rfl, ?_⟩; have n0_ := Aside0.mk (blk_below (g := gb219) (o := .cells #[.int .i32 t211, .int .i32 t212, .int .i32 t213, .int .u8 t214, .int .u8 t215, .int .u8 t216, .int .u8 t217] 26 (0, 0)) (by (with_reducible repeat (first | refine blk_drewN ?_ _ | refine blk_drew ?_ | refine blk_alloc ?_ _)); refine blk_put (cs := #[.int .i32 t211, .int .i32 t212, .int .i32 t213, .int .u8 t214, .int .u8 t215, .int .u8 t216, .int .u8 0]) ?_ 6 _ rfl; (with_reducible repeat (first | refine blk_drewN ?_ _ | refine blk_drew ?_ | refine blk_alloc ?_ _)); refine blk_put (cs := #[.int .i32 t211, .int .i32 t212, .int .i32 t213, .int .u8 t214, .int .u8 t215, .int .u8 0, .int .u8 0]) ?_ 5 _ rfl; (with_reducible repeat (first | refine blk_drewN ?_ _ | refine blk_drew ?_ | refine blk_alloc ?_ _)); refine blk_put (cs := #[.int .i32 t211, .int .i32 t212, .int .i32 t213, .int .u8 t214, .int .u8 0, .int .u8 0, .int .u8 0]) ?_ 4 _ rfl; (with_reducible repeat (first | refine blk_drewN ?_ _ | refine blk_drew ?_ | refine blk_alloc ?_ _)); refine blk_put (cs := #[.int .i32 t211, .int .i32 t212, .int .i32 t213, .int .u8 0, .int .u8 0, .int .u8 0, .int .u8 0]) ?_ 3 _ rfl; (with_reducible repeat (first | refine blk_drewN ?_ _ | refine blk_drew ?_ | refine blk_alloc ?_ _)); refine blk_put (cs := #[.int .i32 t211, .int .i32 t212, .int .i32 0, .int .u8 0, .int .u8 0, .int .u8 0, .int .u8 0]) ?_ 2 _ rfl; (with_reducible repeat (first | refine blk_drewN ?_ _ | refine blk_drew ?_ | refine blk_alloc ?_ _)); refine blk_put (cs := #[.int .i32 t211, .int .i32 0, .int .i32 0, .int .u8 0, .int .u8 0, .int .u8 0, .int .u8 0]) ?_ 1 _ rfl; (with_reducible repeat (first | refine blk_drewN ?_ _ | refine blk_drew ?_ | refine blk_alloc ?_ _)); refine blk_put (cs := #[.int .i32 0, .int .i32 0, .int .i32 0, .int .u8 0, .int .u8 0, .int .u8 0, .int .u8 0]) ?_ 0 _ rfl; (with_reducible repeat (first | refine blk_drewN ?_ _ | refine blk_drew ?_ | refine blk_alloc ?_ _)); exact BK219.out) hb); have n1_ := Aside0.mk (below_step (by repeat (first | (with_reducible first | exact HB.out | apply below_alloc | apply pw_below_drewN | apply below_drew1 | refine below_set ?_ GE219.out) | exact HB.out)) hb); clear BK219; clear HB; have BK219 := n0_; have HB := n1_; clear n0_ n1_; (try clear hb); (try clear hb2); (try clear hk); (try clear hi)) | ((with_reducible refine gate_dst (N := 3) rfl ?_); (try (refine gate_guard (by rfl) ?_; dsimp only)); refine box_event ?hg (N := 3) ?hd (cs := #[.int .i32 0, .int .i32 0, .int .i32 0, .int .u8 0, .int .u8 0, .int .u8 0, .int .u8 0]) (t := 26) ?hr ?_; (case hd => rfl); (case hg => rfl); (case hr => first | (go_simp; done) | (go_simp; rfl)); intro gb228 hg w18 hbox hb; have n0_ := Aside0.mk (blk_below (g := gb219) (o := .cells #[.int .i32 t211, .int .i32 t212, .int .i32 t213, .int .u8 t214, .int .u8 t215, .int .u8 t216, .int .u8 t217] 26 (0, 0)) (by (with_reducible repeat (first | refine blk_drewN ?_ _ | refine blk_drew ?_ | refine blk_alloc ?_ _)); exact BK219.out) hb); have n1_ := Aside0.mk (below_step (by repeat (first | (with_reducible first | exact HB.out | apply below_alloc | apply pw_below_drewN | apply below_drew1 | refine below_set ?_ GE219.out) | exact HB.out)) hb); have n2_ := Aside0.mk (hbox); have n3_ := Aside0.mk ((by rw [hg]; exact (below_size (by repeat (first | (with_reducible first | exact HB.out | apply below_alloc | apply pw_below_drewN | apply below_drew1 | refine below_set ?_ GE219.out) | exact HB.out))) : w.heap.size ≤ gb228)); have n4_ := Aside0.mk ((by rw [hg]; exact (below_size (by repeat (first | (with_reducible first | exact HB.out | apply below_alloc | apply pw_below_drewN | apply below_drew1 | refine below_set ?_ GE219.out) | exact HB.out))) : w.heap.size ≤ gb228)); have n5_ := Aside0.mk ((by rw [hg]; exact Nat.ne_of_lt (blk_lt (g := gb219) (o := .cells #[.int .i32 t211, .int .i32 t212, .int .i32 t213, .int .u8 t214, .int .u8 t215, .int .u8 t216, .int .u8 t217] 26 (0, 0)) (by (with_reducible repeat (first | refine blk_drewN ?_ _ | refine blk_drew ?_ | refine blk_alloc ?_ _)); exact BK219.out)) : gb219 ≠ gb228)); have n6_ := Aside0.mk ((by rw [hg]; exact Nat.ne_of_gt (blk_lt (g := gb219) (o := .cells #[.int .i32 t211, .int .i32 t212, .int .i32 t213, .int .u8 t214, .int .u8 t215, .int .u8 t216, .int .u8 t217] 26 (0, 0)) (by (with_reducible repeat (first | refine blk_drewN ?_ _ | refine blk_drew ?_ | refine blk_alloc ?_ _)); exact BK219.out)) : gb228 ≠ gb219)); clear BK219; clear HB; have BK219 := n0_; have HB := n1_; have BK228 := n2_; have GW228 := n3_; have GE228 := n4_; have NB219_228 := n5_; have NB228_219 := n6_; clear n0_ n1_ n2_ n3_ n4_ n5_ n6_; clear hb hbox hg; have hnb19 := NB228_219.out; have hnc19 := NB219_228.out; have hcz20_0 : w18.cell? ⟨gb228, 0, none⟩ = some (.int .i32 0) := (blk_cell BK228.out 0).trans rfl; have hcz20_1 : w18.cell? ⟨gb228, 1, none⟩ = some (.int .i32 0) := (blk_cell BK228.out 1).trans rfl; have hcz20_2 : w18.cell? ⟨gb228, 2, none⟩ = some (.int .i32 0) := (blk_cell BK228.out 2).trans rfl; have hcz20_3 : w18.cell? ⟨gb228, 3, none⟩ = some (.int .u8 0) := (blk_cell BK228.out 3).trans rfl; have hcz20_4 : w18.cell? ⟨gb228, 4, none⟩ = some (.int .u8 0) := (blk_cell BK228.out 4).trans rfl; have hcz20_5 : w18.cell? ⟨gb228, 5, none⟩ = some (.int .u8 0) := (blk_cell BK228.out 5).trans rfl; have hcz20_6 : w18.cell? ⟨gb228, 6, none⟩ = some (.int .u8 0) := (blk_cell BK228.out 6).trans rfl; have hfz20_0 := blk_frozen BK228.out 0; have hfz20_1 := blk_frozen BK228.out 1; have hfz20_2 := blk_frozen BK228.out 2; have hfz20_3 := blk_frozen BK228.out 3; have hfz20_4 := blk_frozen BK228.out 4; have hfz20_5 := blk_frozen BK228.out 5; have hfz20_6 := blk_frozen BK228.out 6) | ((with_reducible refine gate_callee (f := 21) rfl ?_); refine goesL_ (some 21) rfl rfl Try.func21 (by kernel_rfl) rfl #[.agg #[.int .u8 0, .int .u8 0, .int .u8 0]] rfl (by (try simp only [List.map_toArray, List.map_cons, List.map_nil]); first | done | rfl | (simp only [List.length_drop, List.length_take]; rfl)) ?_; (with_reducible refine (cell_Blank.calls 0 0 0 t229 t230 t231 t232 t233 t234 t235 _ A3.out).mono ?_); rintro e w21 ⟨rfl, hb⟩; refine ⟨_, rfl, ?_⟩; have n0_ := Aside0.mk (blk_below (g := gb219) (o := .cells #[.int .i32 t211, .int .i32 t212, .int .i32 t213, .int .u8 t214, .int .u8 t215, .int .u8 t216, .int .u8 t217] 26 (0, 0)) (by (with_reducible repeat (first | refine blk_drewN ?_ _ | refine blk_drew ?_ | refine blk_alloc ?_ _)); refine blk_far ?_ NB219_228.out _; (with_reducible repeat (first | refine blk_drewN ?_ _ | refine blk_drew ?_ | refine blk_alloc ?_ _)); refine blk_far ?_ NB219_228.out _; (with_reducible repeat (first | refine blk_drewN ?_ _ | refine blk_drew ?_ | refine blk_alloc ?_ _)); refine blk_far ?_ NB219_228.out _; (with_reducible repeat (first | refine blk_drewN ?_ _ | refine blk_drew ?_ | refine blk_alloc ?_ _)); refine blk_far ?_ NB219_228.out _; (with_reducible repeat (first | refine blk_drewN ?_ _ | refine blk_drew ?_ | refine blk_alloc ?_ _)); refine blk_far ?_ NB219_228.out _; (with_reducible repeat (first | refine blk_drewN ?_ _ | refine blk_drew ?_ | refine blk_alloc ?_ _)); refine blk_far ?_ NB219_228.out _; (with_reducible repeat (first | refine blk_drewN ?_ _ | refine blk_drew ?_ | refine blk_alloc ?_ _)); refine blk_far ?_ NB219_228.out _; (with_reducible repeat (first | refine blk_drewN ?_ _ | refine blk_drew ?_ | refine blk_alloc ?_ _)); exact BK219.out) hb); have n1_ := Aside0.mk (blk_below (g := gb228) (o := .cells #[.int .i32 t220, .int .i32 t221, .int .i32 t222, .int .u8 t223, .int .u8 t224, .int .u8 t225, .int .u8 t226] 26 (0, 0)) (by (with_reducible repeat (first | refine blk_drewN ?_ _ | refine blk_drew ?_ | refine blk_alloc ?_ _)); refine blk_put (cs := #[.int .i32 t220, .int .i32 t221, .int .i32 t222, .int .u8 t223, .int .u8 t224, .int .u8 t225, .int .u8 0]) ?_ 6 _ rfl; (with_reducible repeat (first | refine blk_drewN ?_ _ | refine blk_drew ?_ | refine blk_alloc ?_ _)); refine blk_put (cs := #[.int .i32 t220, .int .i32 t221, .int .i32 t222, .int .u8 t223, .int .u8 t224, .int .u8 0, .int .u8 0]) ?_ 5 _ rfl; (with_reducible repeat (first | refine blk_drewN ?_ _ | refine blk_drew ?_ | refine blk_alloc ?_ _)); refine blk_put (cs := #[.int .i32 t220, .int .i32 t221, .int .i32 t222, .int .u8 t223, .int .u8 0, .int .u8 0, .int .u8 0]) ?_ 4 _ rfl; (with_reducible repeat (first | refine blk_drewN ?_ _ | refine blk_drew ?_ | refine blk_alloc ?_ _)); refine blk_put (cs := #[.int .i32 t220, .int .i32 t221, .int .i32 t222, .int .u8 0, .int .u8 0, .int .u8 0, .int .u8 0]) ?_ 3 _ rfl; (with_reducible repeat (first | refine blk_drewN ?_ _ | refine blk_drew ?_ | refine blk_alloc ?_ _)); refine blk_put (cs := #[.int .i32 t220, .int .i32 t221, .int .i32 0, .int .u8 0, .int .u8 0, .int .u8 0, .int .u8 0]) ?_ 2 _ rfl; (with_reducible repeat (first | refine blk_drewN ?_ _ | refine blk_drew ?_ | refine blk_alloc ?_ _)); refine blk_put (cs := #[.int .i32 t220, .int .i32 0, .int .i32 0, .int .u8 0, .int .u8 0, .int .u8 0, .int .u8 0]) ?_ 1 _ rfl; (with_reducible repeat (first | refine blk_drewN ?_ _ | refine blk_drew ?_ | refine blk_alloc ?_ _)); refine blk_put (cs := #[.int .i32 0, .int .i32 0, .int .i32 0, .int .u8 0, .int .u8 0, .int .u8 0, .int .u8 0]) ?_ 0 _ rfl; (with_reducible repeat (first | refine blk_drewN ?_ _ | refine blk_drew ?_ | refine blk_alloc ?_ _)); exact BK228.out) hb); have n2_ := Aside0.mk (below_step (by repeat (first | (with_reducible first | exact HB.out | apply below_alloc | apply pw_below_drewN | apply below_drew1 | refine below_set ?_ GE219.out | refine below_set ?_ GE228.out) | exact HB.out)) hb); clear BK219; clear BK228; clear HB; have BK219 := n0_; have BK228 := n1_; have HB := n2_; clear n0_ n1_ n2_; (try clear hb); (try clear hb2); (try clear hk); (try clear hi)) | ((with_reducible refine gate_dst (N := 5) rfl ?_); (try (refine gate_guard (by rfl) ?_; dsimp only)); refine box_event ?hg (N := 5) ?hd (cs := #[.int .i32 0, .int .i32 0, .int .i32 0, .int .u8 0, .int .u8 0, .int .u8 0, .int .u8 0]) (t := 26) ?hr ?_; (case hd => rfl); (case hg => rfl); (case hr => first | (go_simp; done) | (go_simp; rfl)); intro gb236 hg w22 hbox hb; have n0_ := Aside0.mk (blk_below (g := gb219) (o := .cells #[.int .i32 t211, .int .i32 t212, .int .i32 t213, .int .u8 t214, .int .u8 t215, .int .u8 t216, .int .u8 t217] 26 (0, 0)) (by (with_reducible repeat (first | refine blk_drewN ?_ _ | refine blk_drew ?_ | refine blk_alloc ?_ _)); exact BK219.out) hb); have n1_ := Aside0.mk (blk_below (g := gb228) (o := .cells #[.int .i32 t220, .int .i32 t221, .int .i32 t222, .int .u8 t223, .int .u8 t224, .int .u8 t225, .int .u8 t226] 26 (0, 0)) (by (with_reducible repeat (first | refine blk_drewN ?_ _ | refine blk_drew ?_ | refine blk_alloc ?_ _)); exact BK228.out) hb); have n2_ := Aside0.mk (below_step (by repeat (first | (with_reducible first | exact HB.out | apply below_alloc | apply pw_below_drewN | apply below_drew1 | refine below_set ?_ GE219.out | refine below_set ?_ GE228.out) | exact HB.out)) hb); have n3_ := Aside0.mk (hbox); have n4_ := Aside0.mk ((by rw [hg]; exact (below_size (by repeat (first | (with_reducible first | exact HB.out | apply below_alloc | apply pw_below_drewN | apply below_drew1 | refine below_set ?_ GE219.out | refine below_set ?_ GE228.out) | exact HB.out))) : w.heap.size ≤ gb236)); have n5_ := Aside0.mk ((by rw [hg]; exact (below_size (by repeat (first | (with_reducible first | exact HB.out | apply below_alloc | apply pw_below_drewN | apply below_drew1 | refine below_set ?_ GE219.out | refine below_set ?_ GE228.out) | exact HB.out))) : w.heap.size ≤ gb236)); have n6_ := Aside0.mk ((by rw [hg]; exact Nat.ne_of_lt (blk_lt (g := gb219) (o := .cells #[.int .i32 t211, .int .i32 t212, .int .i32 t213, .int .u8 t214, .int .u8 t215, .int .u8 t216, .int .u8 t217] 26 (0, 0)) (by (with_reducible repeat (first | refine blk_drewN ?_ _ | refine blk_drew ?_ | refine blk_alloc ?_ _)); exact BK219.out)) : gb219 ≠ gb236)); have n7_ := Aside0.mk ((by rw [hg]; exact Nat.ne_of_gt (blk_lt (g := gb219) (o := .cells #[.int .i32 t211, .int .i32 t212, .int .i32 t213, .int .u8 t214, .int .u8 t215, .int .u8 t216, .int .u8 t217] 26 (0, 0)) (by (with_reducible repeat (first | refine blk_drewN ?_ _ | refine blk_drew ?_ | refine blk_alloc ?_ _)); exact BK219.out)) : gb236 ≠ gb219)); have n8_ := Aside0.mk ((by rw [hg]; exact Nat.ne_of_lt (blk_lt (g := gb228) (o := .cells #[.int .i32 t220, .int .i32 t221, .int .i32 t222, .int .u8 t223, .int .u8 t224, .int .u8 t225, .int .u8 t226] 26 (0, 0)) (by (with_reducible repeat (first | refine blk_drewN ?_ _ | refine blk_drew ?_ | refine blk_alloc ?_ _)); exact BK228.out)) : gb228 ≠ gb236)); have n9_ := Aside0.mk ((by rw [hg]; exact Nat.ne_of_gt (blk_lt (g := gb228) (o := .cells #[.int .i32 t220, .int .i32 t221, .int .i32 t222, .int .u8 t223, .int .u8 t224, .int .u8 t225, .int .u8 t226] 26 (0, 0)) (by (with_reducible repeat (first | refine blk_drewN ?_ _ | refine blk_drew ?_ | refine blk_alloc ?_ _)); exact BK228.out)) : gb236 ≠ gb228)); clear BK219; clear BK228; clear HB; have BK219 := n0_; have BK228 := n1_; have HB := n2_; have BK236 := n3_; have GW236 := n4_; have GE236 := n5_; have NB219_236 := n6_; have NB236_219 := n7_; have NB228_236 := n8_; have NB236_228 := n9_; clear n0_ n1_ n2_ n3_ n4_ n5_ n6_ n7_ n8_ n9_; clear hb hbox hg; have hnb23 := NB236_219.out; have hnc23 := NB219_236.out; have hnb24 := NB236_228.out; have hnc24 := NB228_236.out; have hcz25_0 : w22.cell? ⟨gb236, 0, none⟩ = some (.int .i32 0) := (blk_cell BK236.out 0).trans rfl; have hcz25_1 : w22.cell? ⟨gb236, 1, none⟩ = some (.int .i32 0) := (blk_cell BK236.out 1).trans rfl; have hcz25_2 : w22.cell? ⟨gb236, 2, none⟩ = some (.int .i32 0) := (blk_cell BK236.out 2).trans rfl; have hcz25_3 : w22.cell? ⟨gb236, 3, none⟩ = some (.int .u8 0) := (blk_cell BK236.out 3).trans rfl; have hcz25_4 : w22.cell? ⟨gb236, 4, none⟩ = some (.int .u8 0) := (blk_cell BK236.out 4).trans rfl; have hcz25_5 : w22.cell? ⟨gb236, 5, none⟩ = some (.int .u8 0) := (blk_cell BK236.out 5).trans rfl; have hcz25_6 : w22.cell? ⟨gb236, 6, none⟩ = some (.int .u8 0) := (blk_cell BK236.out 6).trans rfl; have hfz25_0 := blk_frozen BK236.out 0; have hfz25_1 := blk_frozen BK236.out 1; have hfz25_2 := blk_frozen BK236.out 2; have hfz25_3 := blk_frozen BK236.out 3; have hfz25_4 := blk_frozen BK236.out 4; have hfz25_5 := blk_frozen BK236.out 5; have hfz25_6 := blk_frozen BK236.out 6))
          have n0_ : Aside0 ((((((((w22.setCell ⟨gb236, 0, none⟩ (.int .i32 t229)).setCell ⟨gb236, 1, none⟩ (.int .i32 t230)).setCell ⟨gb236, 2, none⟩ (.int .i32 t231)).setCell ⟨gb236, 3, none⟩ (.int .u8 t232)).setCell ⟨gb236, 4, none⟩ (.int .u8 t233)).setCell ⟨gb236, 5, none⟩ (.int .u8 t234)).setCell ⟨gb236, 6, none⟩ (.int .u8 t235)).heap[gb219]? = some (.cells #[.int .i32 t211, .int .i32 t212, .int .i32 t213, .int .u8 t214, .int .u8 t215, .int .u8 t216, .int .u8 t217] 26 (0, 0))) := ⟨by (with_reducible repeat (first | refine blk_drewN ?_ _ | refine blk_drew ?_ | refine blk_alloc ?_ _)); refine blk_far ?_ NB219_236.out _; (with_reducible repeat (first | refine blk_drewN ?_ _ | refine blk_drew ?_ | refine blk_alloc ?_ _)); refine blk_far ?_ NB219_236.out _; (with_reducible repeat (first | refine blk_drewN ?_ _ | refine blk_drew ?_ | refine blk_alloc ?_ _)); refine blk_far ?_ NB219_236.out _; (with_reducible repeat (first | refine blk_drewN ?_ _ | refine blk_drew ?_ | refine blk_alloc ?_ _)); refine blk_far ?_ NB219_236.out _; (with_reducible repeat (first | refine blk_drewN ?_ _ | refine blk_drew ?_ | refine blk_alloc ?_ _)); refine blk_far ?_ NB219_236.out _; (with_reducible repeat (first | refine blk_drewN ?_ _ | refine blk_drew ?_ | refine blk_alloc ?_ _)); refine blk_far ?_ NB219_236.out _; (with_reducible repeat (first | refine blk_drewN ?_ _ | refine blk_drew ?_ | refine blk_alloc ?_ _)); refine blk_far ?_ NB219_236.out _; (with_reducible repeat (first | refine blk_drewN ?_ _ | refine blk_drew ?_ | refine blk_alloc ?_ _)); exact BK219.out⟩
          have n1_ : Aside0 ((((((((w22.setCell ⟨gb236, 0, none⟩ (.int .i32 t229)).setCell ⟨gb236, 1, none⟩ (.int .i32 t230)).setCell ⟨gb236, 2, none⟩ (.int .i32 t231)).setCell ⟨gb236, 3, none⟩ (.int .u8 t232)).setCell ⟨gb236, 4, none⟩ (.int .u8 t233)).setCell ⟨gb236, 5, none⟩ (.int .u8 t234)).setCell ⟨gb236, 6, none⟩ (.int .u8 t235)).heap[gb228]? = some (.cells #[.int .i32 t220, .int .i32 t221, .int .i32 t222, .int .u8 t223, .int .u8 t224, .int .u8 t225, .int .u8 t226] 26 (0, 0))) := ⟨by (with_reducible repeat (first | refine blk_drewN ?_ _ | refine blk_drew ?_ | refine blk_alloc ?_ _)); refine blk_far ?_ NB228_236.out _; (with_reducible repeat (first | refine blk_drewN ?_ _ | refine blk_drew ?_ | refine blk_alloc ?_ _)); refine blk_far ?_ NB228_236.out _; (with_reducible repeat (first | refine blk_drewN ?_ _ | refine blk_drew ?_ | refine blk_alloc ?_ _)); refine blk_far ?_ NB228_236.out _; (with_reducible repeat (first | refine blk_drewN ?_ _ | refine blk_drew ?_ | refine blk_alloc ?_ _)); refine blk_far ?_ NB228_236.out _; (with_reducible repeat (first | refine blk_drewN ?_ _ | refine blk_drew ?_ | refine blk_alloc ?_ _)); refine blk_far ?_ NB228_236.out _; (with_reducible repeat (first | refine blk_drewN ?_ _ | refine blk_drew ?_ | refine blk_alloc ?_ _)); refine blk_far ?_ NB228_236.out _; (with_reducible repeat (first | refine blk_drewN ?_ _ | refine blk_drew ?_ | refine blk_alloc ?_ _)); refine blk_far ?_ NB228_236.out _; (with_reducible repeat (first | refine blk_drewN ?_ _ | refine blk_drew ?_ | refine blk_alloc ?_ _)); exact BK228.out⟩
          have n2_ : Aside0 ((((((((w22.setCell ⟨gb236, 0, none⟩ (.int .i32 t229)).setCell ⟨gb236, 1, none⟩ (.int .i32 t230)).setCell ⟨gb236, 2, none⟩ (.int .i32 t231)).setCell ⟨gb236, 3, none⟩ (.int .u8 t232)).setCell ⟨gb236, 4, none⟩ (.int .u8 t233)).setCell ⟨gb236, 5, none⟩ (.int .u8 t234)).setCell ⟨gb236, 6, none⟩ (.int .u8 t235)).heap[gb236]? = some (.cells #[.int .i32 t229, .int .i32 t230, .int .i32 t231, .int .u8 t232, .int .u8 t233, .int .u8 t234, .int .u8 t235] 26 (0, 0))) := ⟨by (with_reducible repeat (first | refine blk_drewN ?_ _ | refine blk_drew ?_ | refine blk_alloc ?_ _)); refine blk_put (cs := #[.int .i32 t229, .int .i32 t230, .int .i32 t231, .int .u8 t232, .int .u8 t233, .int .u8 t234, .int .u8 0]) ?_ 6 _ rfl; (with_reducible repeat (first | refine blk_drewN ?_ _ | refine blk_drew ?_ | refine blk_alloc ?_ _)); refine blk_put (cs := #[.int .i32 t229, .int .i32 t230, .int .i32 t231, .int .u8 t232, .int .u8 t233, .int .u8 0, .int .u8 0]) ?_ 5 _ rfl; (with_reducible repeat (first | refine blk_drewN ?_ _ | refine blk_drew ?_ | refine blk_alloc ?_ _)); refine blk_put (cs := #[.int .i32 t229, .int .i32 t230, .int .i32 t231, .int .u8 t232, .int .u8 0, .int .u8 0, .int .u8 0]) ?_ 4 _ rfl; (with_reducible repeat (first | refine blk_drewN ?_ _ | refine blk_drew ?_ | refine blk_alloc ?_ _)); refine blk_put (cs := #[.int .i32 t229, .int .i32 t230, .int .i32 t231, .int .u8 0, .int .u8 0, .int .u8 0, .int .u8 0]) ?_ 3 _ rfl; (with_reducible repeat (first | refine blk_drewN ?_ _ | refine blk_drew ?_ | refine blk_alloc ?_ _)); refine blk_put (cs := #[.int .i32 t229, .int .i32 t230, .int .i32 0, .int .u8 0, .int .u8 0, .int .u8 0, .int .u8 0]) ?_ 2 _ rfl; (with_reducible repeat (first | refine blk_drewN ?_ _ | refine blk_drew ?_ | refine blk_alloc ?_ _)); refine blk_put (cs := #[.int .i32 t229, .int .i32 0, .int .i32 0, .int .u8 0, .int .u8 0, .int .u8 0, .int .u8 0]) ?_ 1 _ rfl; (with_reducible repeat (first | refine blk_drewN ?_ _ | refine blk_drew ?_ | refine blk_alloc ?_ _)); refine blk_put (cs := #[.int .i32 0, .int .i32 0, .int .i32 0, .int .u8 0, .int .u8 0, .int .u8 0, .int .u8 0]) ?_ 0 _ rfl; (with_reducible repeat (first | refine blk_drewN ?_ _ | refine blk_drew ?_ | refine blk_alloc ?_ _)); exact BK236.out⟩
          have n3_ : Aside0 (Below w.heap.size w (((((((w22.setCell ⟨gb236, 0, none⟩ (.int .i32 t229)).setCell ⟨gb236, 1, none⟩ (.int .i32 t230)).setCell ⟨gb236, 2, none⟩ (.int .i32 t231)).setCell ⟨gb236, 3, none⟩ (.int .u8 t232)).setCell ⟨gb236, 4, none⟩ (.int .u8 t233)).setCell ⟨gb236, 5, none⟩ (.int .u8 t234)).setCell ⟨gb236, 6, none⟩ (.int .u8 t235))) := ⟨by repeat (first | (with_reducible first | exact HB.out | apply below_alloc | apply pw_below_drewN | apply below_drew1 | refine below_set ?_ GE219.out | refine below_set ?_ GE228.out | refine below_set ?_ GE236.out) | exact HB.out)⟩
          (try clear BK219)
          (try clear BK228)
          (try clear BK236)
          (try clear HB)
          generalize (((((((w22.setCell ⟨gb236, 0, none⟩ (.int .i32 t229)).setCell ⟨gb236, 1, none⟩ (.int .i32 t230)).setCell ⟨gb236, 2, none⟩ (.int .i32 t231)).setCell ⟨gb236, 3, none⟩ (.int .u8 t232)).setCell ⟨gb236, 4, none⟩ (.int .u8 t233)).setCell ⟨gb236, 5, none⟩ (.int .u8 t234)).setCell ⟨gb236, 6, none⟩ (.int .u8 t235)) = w26 at n0_ n1_ n2_ n3_ ⊢
          have BK219 := n0_
          have BK228 := n1_
          have BK236 := n2_
          have HB := n3_
          clear n0_ n1_ n2_ n3_
          have n0_ := Aside0.mk (blk_drew BK219.out)
          have n1_ := Aside0.mk (blk_drew BK228.out)
          have n2_ := Aside0.mk (blk_drew BK236.out)
          have n3_ := Aside0.mk (below_drew1 HB.out)
          clear BK219
          clear BK228
          clear BK236
          clear HB
          have BK219 := n0_
          have BK228 := n1_
          have BK236 := n2_
          have HB := n3_
          clear n0_ n1_ n2_ n3_
          refine start_ (n := 8) (S := fun w' => w'.cell? ⟨gb219, 0, none⟩ = some (.int .i32 t211) ∧ w'.cell? ⟨gb219, 1, none⟩ = some (.int .i32 t212) ∧ w'.cell? ⟨gb219, 2, none⟩ = some (.int .i32 t213) ∧ w'.cell? ⟨gb219, 3, none⟩ = some (.int .u8 t214) ∧ w'.cell? ⟨gb219, 4, none⟩ = some (.int .u8 t215) ∧ w'.cell? ⟨gb219, 5, none⟩ = some (.int .u8 t216) ∧ w'.cell? ⟨gb219, 6, none⟩ = some (.int .u8 t217)) (ds := []) #[false, false, false, false, false, false, false, false] (by kernel_rfl) rfl rfl ⟨(blk_cell BK219.out 0).trans rfl, (blk_cell BK219.out 1).trans rfl, (blk_cell BK219.out 2).trans rfl, (blk_cell BK219.out 3).trans rfl, (blk_cell BK219.out 4).trans rfl, (blk_cell BK219.out 5).trans rfl, (blk_cell BK219.out 6).trans rfl⟩ (fun hHeld => ?_); refine with_tabW prolepsislaw06_knownB.tab4 prolepsislaw06_knownB.bits4 (fun HT_ HW_ => ?_)
          generalize w26.drew = w27 at BK219 BK228 BK236 HB hHeld ⊢
          refine take_ (i := 1) (N := some 24) (v := ?_) (a' := ?_) #[false, true, false, false, false, false, false, false] rfl rfl (take_ofW HT_.out HW_.out (by kernel_rfl)) (fun _ _ _ h => h) (Or.inl ⟨by rfl, ?_⟩) hHeld ?_ ?_
          rotate_left
          · rintro w' ⟨s0, s1, s2, s3, s4, s5, s6⟩
            go_simp
            with_reducible rfl
          rotate_left
          · simp only [Act.put, List.setIfInBounds_toArray, List.set_cons_zero, List.set_cons_succ, i64_w, i32_w]
            rfl
          refine one_ (i := 0) (N := some 23) #[true, true, false, false, false, false, false, false] rfl rfl (one_of HT_.out (by kernel_rfl)) (by decide) (fun K hK => ?_)
          refine goes_ Try.func51 (by kernel_rfl) rfl #[.int .i64 4] (by rfl) rfl rfl (by (try simp only [List.map_toArray, List.map_cons, List.map_nil]); first | done | rfl | (simp only [List.length_drop, List.length_take]; rfl)) ?_
          with_reducible refine (line_New.calls k 4 t237 _ A4.out).mono ?_
          rintro e w28 ⟨v238, rfl, ho0, hb⟩
          refine ⟨_, rfl, ?_⟩
          have n0_ := Aside0.mk (Kd.R_lower (Kd.R_newB (Kd.R_newB (Kd.R_newB ho0 (g := gb219) (o := .cells #[.int .i32 t211, .int .i32 t212, .int .i32 t213, .int .u8 t214, .int .u8 t215, .int .u8 t216, .int .u8 t217] 26 (0, 0)) (by (with_reducible repeat (first | refine blk_drewN ?_ _ | refine blk_drew ?_ | refine blk_alloc ?_ _)); exact BK219.out)) (g := gb228) (o := .cells #[.int .i32 t220, .int .i32 t221, .int .i32 t222, .int .u8 t223, .int .u8 t224, .int .u8 t225, .int .u8 t226] 26 (0, 0)) (by (with_reducible repeat (first | refine blk_drewN ?_ _ | refine blk_drew ?_ | refine blk_alloc ?_ _)); exact BK228.out)) (g := gb236) (o := .cells #[.int .i32 t229, .int .i32 t230, .int .i32 t231, .int .u8 t232, .int .u8 t233, .int .u8 t234, .int .u8 t235] 26 (0, 0)) (by (with_reducible repeat (first | refine blk_drewN ?_ _ | refine blk_drew ?_ | refine blk_alloc ?_ _)); exact BK236.out)) (below_size (by repeat (first | (with_reducible first | exact HB.out | apply below_alloc | apply pw_below_drewN | apply below_drew1 | refine below_set ?_ GE219.out | refine below_set ?_ GE228.out | refine below_set ?_ GE236.out) | exact HB.out))))
          have n1_ := Aside0.mk (blk_below (g := gb219) (o := .cells #[.int .i32 t211, .int .i32 t212, .int .i32 t213, .int .u8 t214, .int .u8 t215, .int .u8 t216, .int .u8 t217] 26 (0, 0)) (by (with_reducible repeat (first | refine blk_drewN ?_ _ | refine blk_drew ?_ | refine blk_alloc ?_ _)); exact BK219.out) hb)
          have n2_ := Aside0.mk (blk_below (g := gb228) (o := .cells #[.int .i32 t220, .int .i32 t221, .int .i32 t222, .int .u8 t223, .int .u8 t224, .int .u8 t225, .int .u8 t226] 26 (0, 0)) (by (with_reducible repeat (first | refine blk_drewN ?_ _ | refine blk_drew ?_ | refine blk_alloc ?_ _)); exact BK228.out) hb)
          have n3_ := Aside0.mk (blk_below (g := gb236) (o := .cells #[.int .i32 t229, .int .i32 t230, .int .i32 t231, .int .u8 t232, .int .u8 t233, .int .u8 t234, .int .u8 t235] 26 (0, 0)) (by (with_reducible repeat (first | refine blk_drewN ?_ _ | refine blk_drew ?_ | refine blk_alloc ?_ _)); exact BK236.out) hb)
          have n4_ := Aside0.mk (below_step (by repeat (first | (with_reducible first | exact HB.out | apply below_alloc | apply pw_below_drewN | apply below_drew1 | refine below_set ?_ GE219.out | refine below_set ?_ GE228.out | refine below_set ?_ GE236.out) | exact HB.out)) hb)
          clear BK219
          clear BK228
          clear BK236
          clear HB
          have HO239 := n0_
          have BK219 := n1_
          have BK228 := n2_
          have BK236 := n3_
          have HB := n4_
          clear n0_ n1_ n2_ n3_ n4_
          (try clear hb)
          (try clear hb2)
          (try clear hk)
          (try clear hi)
          (try clear ho0)
          obtain ⟨Ao29, co29, eo29⟩ := Kd.R_slice HO239.out
          (first | subst eo29 | (injection eo29 with f1_ f2_ f3_; have f4_ := f1_.symm; have f5_ := f3_.symm; clear f1_ f2_ f3_; subst f4_; subst f5_))
          refine hK.out _ _ ⟨(blk_cell BK219.out 0).trans rfl, (blk_cell BK219.out 1).trans rfl, (blk_cell BK219.out 2).trans rfl, (blk_cell BK219.out 3).trans rfl, (blk_cell BK219.out 4).trans rfl, (blk_cell BK219.out 5).trans rfl, (blk_cell BK219.out 6).trans rfl⟩ (fun hHeld => ?_)
          clear hK K
          refine norm_ (a' := ?_) ?_ ?_
          rotate_left
          · show Act.put _ (some 23) _ = _
            simp only [Act.put, List.setIfInBounds_toArray, List.set_cons_zero, List.set_cons_succ, i64_w, i32_w]
            rfl
          refine one_ (i := 2) (N := some 25) #[true, true, true, false, false, false, false, false] rfl rfl (one_of HT_.out (by kernel_rfl)) (by decide) (fun K hK => ?_)
          refine goes_ Try.func37 (by kernel_rfl) rfl #[.slice Ao29 t237.length co29, .int .i64 1, .agg #[.int .i32 t211, .int .i32 t212, .int .i32 t213, .int .u8 t214, .int .u8 t215, .int .u8 t216, .int .u8 t217]] (by rfl) rfl rfl (by (try simp only [List.map_toArray, List.map_cons, List.map_nil]); first | done | rfl | (simp only [List.length_drop, List.length_take]; rfl)) ?_
          with_reducible refine (line_Put.calls k _ _ t237 1 t211 t212 t213 t214 t215 t216 t217 t240 true _ ?side1 ?side2 A5.out).mono ?_
          (case side1 => repeat (first | exact (Kd.R_reads' HO239.out).2.2 | (with_reducible refine Kd.C_alloc ?_ _) | (with_reducible refine Kd.C_drewN ?_ _) | (with_reducible refine Kd.C_drew ?_)))
          (case side2 => exact (Kd.R_reads' HO239.out).2.1)
          rintro e w30 ⟨v241, rfl, ho0, hb⟩
          refine ⟨_, rfl, ?_⟩
          have n0_ := Aside0.mk (Kd.R_elder' (by (with_reducible repeat (first | apply Kd.R_alloc | apply Kd.R_drewN | apply Kd.R_drew)); exact HO239.out) (Kd.R_base ho0) hb)
          have n1_ := Aside0.mk (Kd.R_lower (Kd.R_newB (Kd.R_newB (Kd.R_newB (Kd.R_new' ho0 (Kd.R_lt (by (with_reducible repeat (first | apply Kd.R_alloc | apply Kd.R_drewN | apply Kd.R_drew)); exact HO239.out))) (g := gb219) (o := .cells #[.int .i32 t211, .int .i32 t212, .int .i32 t213, .int .u8 t214, .int .u8 t215, .int .u8 t216, .int .u8 t217] 26 (0, 0)) (by (with_reducible repeat (first | refine blk_drewN ?_ _ | refine blk_drew ?_ | refine blk_alloc ?_ _)); exact BK219.out)) (g := gb228) (o := .cells #[.int .i32 t220, .int .i32 t221, .int .i32 t222, .int .u8 t223, .int .u8 t224, .int .u8 t225, .int .u8 t226] 26 (0, 0)) (by (with_reducible repeat (first | refine blk_drewN ?_ _ | refine blk_drew ?_ | refine blk_alloc ?_ _)); exact BK228.out)) (g := gb236) (o := .cells #[.int .i32 t229, .int .i32 t230, .int .i32 t231, .int .u8 t232, .int .u8 t233, .int .u8 t234, .int .u8 t235] 26 (0, 0)) (by (with_reducible repeat (first | refine blk_drewN ?_ _ | refine blk_drew ?_ | refine blk_alloc ?_ _)); exact BK236.out)) (below_size (by repeat (first | (with_reducible first | exact HB.out | apply below_alloc | apply pw_below_drewN | apply below_drew1 | refine below_set ?_ GE219.out | refine below_set ?_ GE228.out | refine below_set ?_ GE236.out) | exact HB.out))))
          have n2_ := Aside0.mk (blk_below (g := gb219) (o := .cells #[.int .i32 t211, .int .i32 t212, .int .i32 t213, .int .u8 t214, .int .u8 t215, .int .u8 t216, .int .u8 t217] 26 (0, 0)) (by (with_reducible repeat (first | refine blk_drewN ?_ _ | refine blk_drew ?_ | refine blk_alloc ?_ _)); exact BK219.out) hb)
          have n3_ := Aside0.mk (blk_below (g := gb228) (o := .cells #[.int .i32 t220, .int .i32 t221, .int .i32 t222, .int .u8 t223, .int .u8 t224, .int .u8 t225, .int .u8 t226] 26 (0, 0)) (by (with_reducible repeat (first | refine blk_drewN ?_ _ | refine blk_drew ?_ | refine blk_alloc ?_ _)); exact BK228.out) hb)
          have n4_ := Aside0.mk (blk_below (g := gb236) (o := .cells #[.int .i32 t229, .int .i32 t230, .int .i32 t231, .int .u8 t232, .int .u8 t233, .int .u8 t234, .int .u8 t235] 26 (0, 0)) (by (with_reducible repeat (first | refine blk_drewN ?_ _ | refine blk_drew ?_ | refine blk_alloc ?_ _)); exact BK236.out) hb)
          have n5_ := Aside0.mk (below_step (by repeat (first | (with_reducible first | exact HB.out | apply below_alloc | apply pw_below_drewN | apply below_drew1 | refine below_set ?_ GE219.out | refine below_set ?_ GE228.out | refine below_set ?_ GE236.out) | exact HB.out)) hb)
          clear HO239
          clear BK219
          clear BK228
          clear BK236
          clear HB
          have HO239 := n0_
          have HO242 := n1_
          have BK219 := n2_
          have BK228 := n3_
          have BK236 := n4_
          have HB := n5_
          clear n0_ n1_ n2_ n3_ n4_ n5_
          (try clear hb)
          (try clear hb2)
          (try clear hk)
          (try clear hi)
          (try clear ho0)
          refine hK.out _ _ ⟨(blk_cell BK219.out 0).trans rfl, (blk_cell BK219.out 1).trans rfl, (blk_cell BK219.out 2).trans rfl, (blk_cell BK219.out 3).trans rfl, (blk_cell BK219.out 4).trans rfl, (blk_cell BK219.out 5).trans rfl, (blk_cell BK219.out 6).trans rfl⟩ (fun hHeld => ?_)
          clear hK K
          refine norm_ (a' := ?_) ?_ ?_
          rotate_left
          · show Act.put _ (some 25) _ = _
            simp only [Act.put, List.setIfInBounds_toArray, List.set_cons_zero, List.set_cons_succ, i64_w, i32_w]
            rfl
          refine pure_ (i := 3) (N := some 22) (v := ?_) (a' := ?_) #[true, true, true, true, false, false, false, false] rfl rfl (any_of HT_.out (by kernel_rfl)) (fun _ _ _ h => h) (Or.inl ⟨by rfl, ?_⟩) ?_ ?_
          rotate_left
          · intro w'
            go_simp
            with_reducible rfl
          rotate_left
          · simp only [Act.put, List.setIfInBounds_toArray, List.set_cons_zero, List.set_cons_succ, i64_w, i32_w]
            rfl
          refine pure_ (i := 4) (N := some 26) (v := ?_) (a' := ?_) #[true, true, true, true, true, false, false, false] rfl rfl (any_of HT_.out (by kernel_rfl)) (fun _ _ _ h => h) (Or.inl ⟨by rfl, ?_⟩) ?_ ?_
          rotate_left
          · intro w'
            go_simp
            with_reducible rfl
          rotate_left
          · simp only [Act.put, List.setIfInBounds_toArray, List.set_cons_zero, List.set_cons_succ, i64_w, i32_w]
            rfl
          refine pure_ (i := 5) (N := some 27) (v := ?_) (a' := ?_) #[true, true, true, true, true, true, false, false] rfl rfl (any_of HT_.out (by kernel_rfl)) (fun _ _ _ h => h) (Or.inl ⟨by rfl, ?_⟩) ?_ ?_
          rotate_left
          · intro w'
            go_simp
            with_reducible rfl
          rotate_left
          · simp only [Act.put, List.setIfInBounds_toArray, List.set_cons_zero, List.set_cons_succ, i64_w, i32_w]
            rfl
          refine pure_ (i := 6) (N := some 6) (v := ?_) (a' := ?_) #[true, true, true, true, true, true, true, false] rfl rfl (any_of HT_.out (by kernel_rfl)) (fun _ _ _ h => h) (Or.inl ⟨by rfl, ?_⟩) ?_ ?_
          rotate_left
          · intro w'
            go_simp
            with_reducible rfl
          rotate_left
          · simp only [Act.put, List.setIfInBounds_toArray, List.set_cons_zero, List.set_cons_succ, i64_w, i32_w]
            rfl
          refine pure_ (i := 7) (N := some 7) (v := ?_) (a' := ?_) #[true, true, true, true, true, true, true, true] rfl rfl (any_of HT_.out (by kernel_rfl)) (fun _ _ _ h => h) (Or.inl ⟨by rfl, ?_⟩) ?_ ?_
          rotate_left
          · intro w'
            go_simp
            with_reducible rfl
          rotate_left
          · simp only [Act.put, List.setIfInBounds_toArray, List.set_cons_zero, List.set_cons_succ, i64_w, i32_w]
            rfl
          refine done_ (done_of HT_.out (by kernel_rfl)) ?_
          have hcz31_0 : w30.cell? ⟨gb228, 0, none⟩ = some (.int .i32 t220) := (blk_cell BK228.out 0).trans rfl
          have hcz31_1 : w30.cell? ⟨gb228, 1, none⟩ = some (.int .i32 t221) := (blk_cell BK228.out 1).trans rfl
          have hcz31_2 : w30.cell? ⟨gb228, 2, none⟩ = some (.int .i32 t222) := (blk_cell BK228.out 2).trans rfl
          have hcz31_3 : w30.cell? ⟨gb228, 3, none⟩ = some (.int .u8 t223) := (blk_cell BK228.out 3).trans rfl
          have hcz31_4 : w30.cell? ⟨gb228, 4, none⟩ = some (.int .u8 t224) := (blk_cell BK228.out 4).trans rfl
          have hcz31_5 : w30.cell? ⟨gb228, 5, none⟩ = some (.int .u8 t225) := (blk_cell BK228.out 5).trans rfl
          have hcz31_6 : w30.cell? ⟨gb228, 6, none⟩ = some (.int .u8 t226) := (blk_cell BK228.out 6).trans rfl
          have hfz31_0 := blk_frozen BK228.out 0
          have hfz31_1 := blk_frozen BK228.out 1
          have hfz31_2 := blk_frozen BK228.out 2
          have hfz31_3 := blk_frozen BK228.out 3
          have hfz31_4 := blk_frozen BK228.out 4
          have hfz31_5 := blk_frozen BK228.out 5
          have hfz31_6 := blk_frozen BK228.out 6
          obtain ⟨Ao32, co32, eo32⟩ := Kd.R_slice HO242.out
          subst eo32
          try go_wp2_with (first | ((with_reducible refine gate_callee (f := 37) rfl ?_); refine goesL_ (some 31) rfl rfl Try.func37 (by kernel_rfl) rfl #[.slice Ao32 t240.length co32, .int .i64 2, .agg #[.int .i32 t220, .int .i32 t221, .int .i32 t222, .int .u8 t223, .int .u8 t224, .int .u8 t225, .int .u8 t226]] rfl (by (try simp only [List.map_toArray, List.map_cons, List.map_nil]); first | done | rfl | (simp only [List.length_drop, List.length_take]; rfl)) ?_; (with_reducible refine (line_Put.calls k _ _ t240 2 t220 t221 t222 t223 t224 t225 t226 t244 true _ ?side1 ?side2 A6.out).mono ?_); (case side1 => repeat (first | exact (Kd.R_reads' HO242.out).2.2 | (with_reducible refine Kd.C_alloc ?_ _) | (with_reducible refine Kd.C_drewN ?_ _) | (with_reducible refine Kd.C_drew ?_))); (case side2 => exact (Kd.R_reads' HO242.out).2.1); rintro e w33 ⟨v245, rfl, ho0, hb⟩; refine ⟨_, rfl, ?_⟩; have n0_ := Aside0.mk (Kd.R_elder' (by (with_reducible repeat (first | apply Kd.R_alloc | apply Kd.R_drewN | apply Kd.R_drew)); exact HO239.out) (Kd.R_base ho0) hb); have n1_ := Aside0.mk (Kd.R_elder' (by (with_reducible repeat (first | apply Kd.R_alloc | apply Kd.R_drewN | apply Kd.R_drew)); exact HO242.out) (Kd.R_base ho0) hb); have n2_ := Aside0.mk (Kd.R_lower (Kd.R_newB (Kd.R_newB (Kd.R_newB (Kd.R_new' (Kd.R_new' ho0 (Kd.R_lt (by (with_reducible repeat (first | apply Kd.R_alloc | apply Kd.R_drewN | apply Kd.R_drew)); exact HO239.out))) (Kd.R_lt (by (with_reducible repeat (first | apply Kd.R_alloc | apply Kd.R_drewN | apply Kd.R_drew)); exact HO242.out))) (g := gb219) (o := .cells #[.int .i32 t211, .int .i32 t212, .int .i32 t213, .int .u8 t214, .int .u8 t215, .int .u8 t216, .int .u8 t217] 26 (0, 0)) (by (with_reducible repeat (first | refine blk_drewN ?_ _ | refine blk_drew ?_ | refine blk_alloc ?_ _)); exact BK219.out)) (g := gb228) (o := .cells #[.int .i32 t220, .int .i32 t221, .int .i32 t222, .int .u8 t223, .int .u8 t224, .int .u8 t225, .int .u8 t226] 26 (0, 0)) (by (with_reducible repeat (first | refine blk_drewN ?_ _ | refine blk_drew ?_ | refine blk_alloc ?_ _)); exact BK228.out)) (g := gb236) (o := .cells #[.int .i32 t229, .int .i32 t230, .int .i32 t231, .int .u8 t232, .int .u8 t233, .int .u8 t234, .int .u8 t235] 26 (0, 0)) (by (with_reducible repeat (first | refine blk_drewN ?_ _ | refine blk_drew ?_ | refine blk_alloc ?_ _)); exact BK236.out)) (below_size (by repeat (first | (with_reducible first | exact HB.out | apply below_alloc | apply pw_below_drewN | apply below_drew1 | refine below_set ?_ GE219.out | refine below_set ?_ GE228.out | refine below_set ?_ GE236.out) | exact HB.out)))); have n3_ := Aside0.mk (blk_below (g := gb219) (o := .cells #[.int .i32 t211, .int .i32 t212, .int .i32 t213, .int .u8 t214, .int .u8 t215, .int .u8 t216, .int .u8 t217] 26 (0, 0)) (by (with_reducible repeat (first | refine blk_drewN ?_ _ | refine blk_drew ?_ | refine blk_alloc ?_ _)); exact BK219.out) hb); have n4_ := Aside0.mk (blk_below (g := gb228) (o := .cells #[.int .i32 t220, .int .i32 t221, .int .i32 t222, .int .u8 t223, .int .u8 t224, .int .u8 t225, .int .u8 t226] 26 (0, 0)) (by (with_reducible repeat (first | refine blk_drewN ?_ _ | refine blk_drew ?_ | refine blk_alloc ?_ _)); exact BK228.out) hb); have n5_ := Aside0.mk (blk_below (g := gb236) (o := .cells #[.int .i32 t229, .int .i32 t230, .int .i32 t231, .int .u8 t232, .int .u8 t233, .int .u8 t234, .int .u8 t235] 26 (0, 0)) (by (with_reducible repeat (first | refine blk_drewN ?_ _ | refine blk_drew ?_ | refine blk_alloc ?_ _)); exact BK236.out) hb); have n6_ := Aside0.mk (below_step (by repeat (first | (with_reducible first | exact HB.out | apply below_alloc | apply pw_below_drewN | apply below_drew1 | refine below_set ?_ GE219.out | refine below_set ?_ GE228.out | refine below_set ?_ GE236.out) | exact HB.out)) hb); clear HO239; clear HO242; clear BK219; clear BK228; clear BK236; clear HB; have HO239 := n0_; have HO242 := n1_; have HO246 := n2_; have BK219 := n3_; have BK228 := n4_; have BK236 := n5_; have HB := n6_; clear n0_ n1_ n2_ n3_ n4_ n5_ n6_; (try clear hb); (try clear hb2); (try clear hk); (try clear hi); (try clear ho0)))
          have n0_ := Aside0.mk (Kd.R_drew HO239.out)
          have n1_ := Aside0.mk (Kd.R_drew HO242.out)
          have n2_ := Aside0.mk (Kd.R_drew HO246.out)
          have n3_ := Aside0.mk (blk_drew BK219.out)
          have n4_ := Aside0.mk (blk_drew BK228.out)
          have n5_ := Aside0.mk (blk_drew BK236.out)
          have n6_ := Aside0.mk (below_drew1 HB.out)
          clear HO239
          clear HO242
          clear HO246
          clear BK219
          clear BK228
          clear BK236
          clear HB
          have HO239 := n0_
          have HO242 := n1_
          have HO246 := n2_
          have BK219 := n3_
          have BK228 := n4_
          have BK236 := n5_
          have HB := n6_
          clear n0_ n1_ n2_ n3_ n4_ n5_ n6_
          refine start_ (n := 29) (S := fun w' => w'.cell? ⟨gb236, 0, none⟩ = some (.int .i32 t229) ∧ w'.cell? ⟨gb236, 1, none⟩ = some (.int .i32 t230) ∧ w'.cell? ⟨gb236, 2, none⟩ = some (.int .i32 t231) ∧ w'.cell? ⟨gb236, 3, none⟩ = some (.int .u8 t232) ∧ w'.cell? ⟨gb236, 4, none⟩ = some (.int .u8 t233) ∧ w'.cell? ⟨gb236, 5, none⟩ = some (.int .u8 t234) ∧ w'.cell? ⟨gb236, 6, none⟩ = some (.int .u8 t235) ∧ w'.cell? ⟨gb219, 0, none⟩ = some (.int .i32 t211) ∧ w'.cell? ⟨gb219, 1, none⟩ = some (.int .i32 t212) ∧ w'.cell? ⟨gb219, 2, none⟩ = some (.int .i32 t213) ∧ w'.cell? ⟨gb219, 3, none⟩ = some (.int .u8 t214) ∧ w'.cell? ⟨gb219, 4, none⟩ = some (.int .u8 t215) ∧ w'.cell? ⟨gb219, 5, none⟩ = some (.int .u8 t216) ∧ w'.cell? ⟨gb219, 6, none⟩ = some (.int .u8 t217) ∧ w'.cell? ⟨gb228, 0, none⟩ = some (.int .i32 t220) ∧ w'.cell? ⟨gb228, 1, none⟩ = some (.int .i32 t221) ∧ w'.cell? ⟨gb228, 2, none⟩ = some (.int .i32 t222) ∧ w'.cell? ⟨gb228, 3, none⟩ = some (.int .u8 t223) ∧ w'.cell? ⟨gb228, 4, none⟩ = some (.int .u8 t224) ∧ w'.cell? ⟨gb228, 5, none⟩ = some (.int .u8 t225) ∧ w'.cell? ⟨gb228, 6, none⟩ = some (.int .u8 t226)) (ds := []) #[false, false, false, false, false, false, false, false, false, false, false, false, false, false, false, false, false, false, false, false, false, false, false, false, false, false, false, false, false] (by kernel_rfl) rfl rfl ⟨(blk_cell BK236.out 0).trans rfl, (blk_cell BK236.out 1).trans rfl, (blk_cell BK236.out 2).trans rfl, (blk_cell BK236.out 3).trans rfl, (blk_cell BK236.out 4).trans rfl, (blk_cell BK236.out 5).trans rfl, (blk_cell BK236.out 6).trans rfl, (blk_cell BK219.out 0).trans rfl, (blk_cell BK219.out 1).trans rfl, (blk_cell BK219.out 2).trans rfl, (blk_cell BK219.out 3).trans rfl, (blk_cell BK219.out 4).trans rfl, (blk_cell BK219.out 5).trans rfl, (blk_cell BK219.out 6).trans rfl, (blk_cell BK228.out 0).trans rfl, (blk_cell BK228.out 1).trans rfl, (blk_cell BK228.out 2).trans rfl, (blk_cell BK228.out 3).trans rfl, (blk_cell BK228.out 4).trans rfl, (blk_cell BK228.out 5).trans rfl, (blk_cell BK228.out 6).trans rfl⟩ (fun hHeld => ?_); refine with_tabW prolepsislaw06_knownB.tab6 prolepsislaw06_knownB.bits6 (fun HT_ HW_ => ?_)
          generalize w33.drew = w34 at HO239 HO242 HO246 BK219 BK228 BK236 HB hHeld ⊢
          refine pure_ (i := 0) (N := some 34) (v := ?_) (a' := ?_) #[true, false, false, false, false, false, false, false, false, false, false, false, false, false, false, false, false, false, false, false, false, false, false, false, false, false, false, false, false] rfl rfl (any_of HT_.out (by kernel_rfl)) (fun _ _ _ h => h) (Or.inl ⟨by rfl, ?_⟩) ?_ ?_
          rotate_left
          · intro w'
            go_simp
            with_reducible rfl
          rotate_left
          · simp only [Act.put, List.setIfInBounds_toArray, List.set_cons_zero, List.set_cons_succ, i64_w, i32_w]
            rfl
          refine pure_ (i := 1) (N := some 35) (v := ?_) (a' := ?_) #[true, true, false, false, false, false, false, false, false, false, false, false, false, false, false, false, false, false, false, false, false, false, false, false, false, false, false, false, false] rfl rfl (any_of HT_.out (by kernel_rfl)) (fun _ _ _ h => h) (Or.inl ⟨by rfl, ?_⟩) ?_ ?_
          rotate_left
          · intro w'
            go_simp
            with_reducible rfl
          rotate_left
          · simp only [Act.put, List.setIfInBounds_toArray, List.set_cons_zero, List.set_cons_succ, i64_w, i32_w]
            rfl
          refine pure_ (i := 2) (N := some 36) (v := ?_) (a' := ?_) #[true, true, true, false, false, false, false, false, false, false, false, false, false, false, false, false, false, false, false, false, false, false, false, false, false, false, false, false, false] rfl rfl (any_of HT_.out (by kernel_rfl)) (fun _ _ _ h => h) (Or.inl ⟨by rfl, ?_⟩) ?_ ?_
          rotate_left
          · intro w'
            go_simp
            with_reducible rfl
          rotate_left
          · simp only [Act.put, List.setIfInBounds_toArray, List.set_cons_zero, List.set_cons_succ, i64_w, i32_w]
            rfl
          refine take_ (i := 3) (N := some 37) (v := ?_) (a' := ?_) #[true, true, true, true, false, false, false, false, false, false, false, false, false, false, false, false, false, false, false, false, false, false, false, false, false, false, false, false, false] rfl rfl (take_ofW HT_.out HW_.out (by kernel_rfl)) (fun _ _ _ h => h) (Or.inl ⟨by rfl, ?_⟩) hHeld ?_ ?_
          rotate_left
          · rintro w' ⟨s0, s1, s2, s3, s4, s5, s6, s7, s8, s9, s10, s11, s12, s13, s14, s15, s16, s17, s18, s19, s20⟩
            go_simp
            with_reducible rfl
          rotate_left
          · simp only [Act.put, List.setIfInBounds_toArray, List.set_cons_zero, List.set_cons_succ, i64_w, i32_w]
            rfl
          refine take_ (i := 4) (N := some 38) (v := ?_) (a' := ?_) #[true, true, true, true, true, false, false, false, false, false, false, false, false, false, false, false, false, false, false, false, false, false, false, false, false, false, false, false, false] rfl rfl (take_ofW HT_.out HW_.out (by kernel_rfl)) (fun _ _ _ h => h) (Or.inl ⟨by rfl, ?_⟩) hHeld ?_ ?_
          rotate_left
          · rintro w' ⟨s0, s1, s2, s3, s4, s5, s6, s7, s8, s9, s10, s11, s12, s13, s14, s15, s16, s17, s18, s19, s20⟩
            go_simp
            with_reducible rfl
          rotate_left
          · simp only [Act.put, List.setIfInBounds_toArray, List.set_cons_zero, List.set_cons_succ, i64_w, i32_w]
            rfl
          refine take_ (i := 5) (N := some 39) (v := ?_) (a' := ?_) #[true, true, true, true, true, true, false, false, false, false, false, false, false, false, false, false, false, false, false, false, false, false, false, false, false, false, false, false, false] rfl rfl (take_ofW HT_.out HW_.out (by kernel_rfl)) (fun _ _ _ h => h) (Or.inl ⟨by rfl, ?_⟩) hHeld ?_ ?_
          rotate_left
          · rintro w' ⟨s0, s1, s2, s3, s4, s5, s6, s7, s8, s9, s10, s11, s12, s13, s14, s15, s16, s17, s18, s19, s20⟩
            go_simp
            with_reducible rfl
          rotate_left
          · simp only [Act.put, List.setIfInBounds_toArray, List.set_cons_zero, List.set_cons_succ, i64_w, i32_w]
            rfl
          refine take_ (i := 7) (N := some 41) (v := ?_) (a' := ?_) #[true, true, true, true, true, true, false, true, false, false, false, false, false, false, false, false, false, false, false, false, false, false, false, false, false, false, false, false, false] rfl rfl (take_ofW HT_.out HW_.out (by kernel_rfl)) (fun _ _ _ h => h) (Or.inl ⟨by rfl, ?_⟩) hHeld ?_ ?_
          rotate_left
          · rintro w' ⟨s0, s1, s2, s3, s4, s5, s6, s7, s8, s9, s10, s11, s12, s13, s14, s15, s16, s17, s18, s19, s20⟩
            go_simp
            with_reducible rfl
          rotate_left
          · simp only [Act.put, List.setIfInBounds_toArray, List.set_cons_zero, List.set_cons_succ, i64_w, i32_w]
            rfl
          refine one_ (i := 6) (N := some 40) #[true, true, true, true, true, true, true, true, false, false, false, false, false, false, false, false, false, false, false, false, false, false, false, false, false, false, false, false, false] rfl rfl (one_of HT_.out (by kernel_rfl)) (by decide) (fun K hK => ?_)
          refine goes_ Try.func23 (by kernel_rfl) rfl #[.agg #[.int .i32 t211, .int .i32 t212, .int .i32 t213, .int .u8 t214, .int .u8 t215, .int .u8 t216, .int .u8 t217]] (by rfl) rfl rfl (by (try simp only [List.map_toArray, List.map_cons, List.map_nil]); first | done | rfl | (simp only [List.length_drop, List.length_take]; rfl)) ?_
          with_reducible refine (cell_Rest.calls t211 t212 t213 t214 t215 t216 t217 t248 t249 t250 t251 t252 t253 t254 _ A8.out).mono ?_
          rintro e w35 ⟨rfl, hb⟩
          refine ⟨_, rfl, ?_⟩
          have n0_ := Aside0.mk (Kd.R_below (by (with_reducible repeat (first | apply Kd.R_alloc | apply Kd.R_drewN | apply Kd.R_drew)); exact HO239.out) hb)
          have n1_ := Aside0.mk (Kd.R_below (by (with_reducible repeat (first | apply Kd.R_alloc | apply Kd.R_drewN | apply Kd.R_drew)); exact HO242.out) hb)
          have n2_ := Aside0.mk (Kd.R_below (by (with_reducible repeat (first | apply Kd.R_alloc | apply Kd.R_drewN | apply Kd.R_drew)); exact HO246.out) hb)
          have n3_ := Aside0.mk (blk_below (g := gb219) (o := .cells #[.int .i32 t211, .int .i32 t212, .int .i32 t213, .int .u8 t214, .int .u8 t215, .int .u8 t216, .int .u8 t217] 26 (0, 0)) (by (with_reducible repeat (first | refine blk_drewN ?_ _ | refine blk_drew ?_ | refine blk_alloc ?_ _)); exact BK219.out) hb)
          have n4_ := Aside0.mk (blk_below (g := gb228) (o := .cells #[.int .i32 t220, .int .i32 t221, .int .i32 t222, .int .u8 t223, .int .u8 t224, .int .u8 t225, .int .u8 t226] 26 (0, 0)) (by (with_reducible repeat (first | refine blk_drewN ?_ _ | refine blk_drew ?_ | refine blk_alloc ?_ _)); exact BK228.out) hb)
          have n5_ := Aside0.mk (blk_below (g := gb236) (o := .cells #[.int .i32 t229, .int .i32 t230, .int .i32 t231, .int .u8 t232, .int .u8 t233, .int .u8 t234, .int .u8 t235] 26 (0, 0)) (by (with_reducible repeat (first | refine blk_drewN ?_ _ | refine blk_drew ?_ | refine blk_alloc ?_ _)); exact BK236.out) hb)
          have n6_ := Aside0.mk (below_step (by repeat (first | (with_reducible first | exact HB.out | apply below_alloc | apply pw_below_drewN | apply below_drew1 | refine below_set ?_ GE219.out | refine below_set ?_ GE228.out | refine below_set ?_ GE236.out) | exact HB.out)) hb)
          clear HO239
          clear HO242
          clear HO246
          clear BK219
          clear BK228
          clear BK236
          clear HB
          have HO239 := n0_
          have HO242 := n1_
          have HO246 := n2_
          have BK219 := n3_
          have BK228 := n4_
          have BK236 := n5_
          have HB := n6_
          clear n0_ n1_ n2_ n3_ n4_ n5_ n6_
          (try clear hb)
          (try clear hb2)
          (try clear hk)
          (try clear hi)
          refine hK.out _ _ ⟨(blk_cell BK236.out 0).trans rfl, (blk_cell BK236.out 1).trans rfl, (blk_cell BK236.out 2).trans rfl, (blk_cell BK236.out 3).trans rfl, (blk_cell BK236.out 4).trans rfl, (blk_cell BK236.out 5).trans rfl, (blk_cell BK236.out 6).trans rfl, (blk_cell BK219.out 0).trans rfl, (blk_cell BK219.out 1).trans rfl, (blk_cell BK219.out 2).trans rfl, (blk_cell BK219.out 3).trans rfl, (blk_cell BK219.out 4).trans rfl, (blk_cell BK219.out 5).trans rfl, (blk_cell BK219.out 6).trans rfl, (blk_cell BK228.out 0).trans rfl, (blk_cell BK228.out 1).trans rfl, (blk_cell BK228.out 2).trans rfl, (blk_cell BK228.out 3).trans rfl, (blk_cell BK228.out 4).trans rfl, (blk_cell BK228.out 5).trans rfl, (blk_cell BK228.out 6).trans rfl⟩ (fun hHeld => ?_)
          clear hK K
          refine norm_ (a' := ?_) ?_ ?_
          rotate_left
          · show Act.put _ (some 40) _ = _
            simp only [Act.put, List.setIfInBounds_toArray, List.set_cons_zero, List.set_cons_succ, i64_w, i32_w]
            rfl
          refine one_ (i := 8) (N := some 42) #[true, true, true, true, true, true, true, true, true, false, false, false, false, false, false, false, false, false, false, false, false, false, false, false, false, false, false, false, false] rfl rfl (one_of HT_.out (by kernel_rfl)) (by decide) (fun K hK => ?_)
          refine Kd.R_lit_step k26 _ 26 ?hg (N := 42) ?hd (xs := ([(⟨t229, (⟨t230, t231⟩ : S22), t232, (⟨t233, t234, t235⟩ : S24)⟩ : S26), (⟨t211, (⟨t212, t213⟩ : S22), t214, (⟨t215, t216, t217⟩ : S24)⟩ : S26), (⟨t248, (⟨t249, t250⟩ : S22), t251, (⟨t252, t253, t254⟩ : S24)⟩ : S26), (⟨t229, (⟨t230, t231⟩ : S22), t232, (⟨t233, t234, t235⟩ : S24)⟩ : S26)] : List (S26))) (inner := [.int .i32 t229, .int .i32 t230, .int .i32 t231, .int .u8 t232, .int .u8 t233, .int .u8 t234, .int .u8 t235, .int .i32 t211, .int .i32 t212, .int .i32 t213, .int .u8 t214, .int .u8 t215, .int .u8 t216, .int .u8 t217, .int .i32 t248, .int .i32 t249, .int .i32 t250, .int .u8 t251, .int .u8 t252, .int .u8 t253, .int .u8 t254, .int .i32 t229, .int .i32 t230, .int .i32 t231, .int .u8 t232, .int .u8 t233, .int .u8 t234, .int .u8 t235]) (ok := fun _ => True) (okp := fun _ => True) ?hr ?hp (fun _ hk => hk) trivial (Below.refl _ _) (Nat.le_refl _) (by simp) ?_; (case hd => rfl); (case hg => rfl); (case hr => first | (go_simp; done) | (go_simp; rfl)); (case hp => exact (Reps.c7 (show Kd.M k26 _ _ _ (⟨t229, (⟨t230, t231⟩ : S22), t232, (⟨t233, t234, t235⟩ : S24)⟩ : S26) [.int .i32 t229, .int .i32 t230, .int .i32 t231, .int .u8 t232, .int .u8 t233, .int .u8 t234, .int .u8 t235] from (k26_mkM _ _ _ (⟨t229, (⟨t230, t231⟩ : S22), t232, (⟨t233, t234, t235⟩ : S24)⟩ : S26) )) (Reps.c7 (show Kd.M k26 _ _ _ (⟨t211, (⟨t212, t213⟩ : S22), t214, (⟨t215, t216, t217⟩ : S24)⟩ : S26) [.int .i32 t211, .int .i32 t212, .int .i32 t213, .int .u8 t214, .int .u8 t215, .int .u8 t216, .int .u8 t217] from (k26_mkM _ _ _ (⟨t211, (⟨t212, t213⟩ : S22), t214, (⟨t215, t216, t217⟩ : S24)⟩ : S26) )) (Reps.c7 (show Kd.M k26 _ _ _ (⟨t248, (⟨t249, t250⟩ : S22), t251, (⟨t252, t253, t254⟩ : S24)⟩ : S26) [.int .i32 t248, .int .i32 t249, .int .i32 t250, .int .u8 t251, .int .u8 t252, .int .u8 t253, .int .u8 t254] from (k26_mkM _ _ _ (⟨t248, (⟨t249, t250⟩ : S22), t251, (⟨t252, t253, t254⟩ : S24)⟩ : S26) )) (Reps.c7 (show Kd.M k26 _ _ _ (⟨t229, (⟨t230, t231⟩ : S22), t232, (⟨t233, t234, t235⟩ : S24)⟩ : S26) [.int .i32 t229, .int .i32 t230, .int .i32 t231, .int .u8 t232, .int .u8 t233, .int .u8 t234, .int .u8 t235] from (k26_mkM _ _ _ (⟨t229, (⟨t230, t231⟩ : S22), t232, (⟨t233, t234, t235⟩ : S24)⟩ : S26) )) (Reps.none _ _))))))
          intro v256 w36 ho37 hb hg_ hnew_
          clear hg_ hnew_
          (first | rw [← Ny255.out] at ho37 | (simp only [Int.reduceToNat] at ho37; rw [← Ny255.out] at ho37))
          have n0_ := Aside0.mk (Kd.R_elder' (by (with_reducible repeat (first | apply Kd.R_alloc | apply Kd.R_drewN | apply Kd.R_drew)); exact HO239.out) (Kd.R_base ho37) hb)
          have n1_ := Aside0.mk (Kd.R_elder' (by (with_reducible repeat (first | apply Kd.R_alloc | apply Kd.R_drewN | apply Kd.R_drew)); exact HO242.out) (Kd.R_base ho37) hb)
          have n2_ := Aside0.mk (Kd.R_elder' (by (with_reducible repeat (first | apply Kd.R_alloc | apply Kd.R_drewN | apply Kd.R_drew)); exact HO246.out) (Kd.R_base ho37) hb)
          have n3_ := Aside0.mk (Kd.R_lower (Kd.R_newB (Kd.R_newB (Kd.R_newB (Kd.R_new' (Kd.R_new' (Kd.R_new' ho37 (Kd.R_lt (by (with_reducible repeat (first | apply Kd.R_alloc | apply Kd.R_drewN | apply Kd.R_drew)); exact HO239.out))) (Kd.R_lt (by (with_reducible repeat (first | apply Kd.R_alloc | apply Kd.R_drewN | apply Kd.R_drew)); exact HO242.out))) (Kd.R_lt (by (with_reducible repeat (first | apply Kd.R_alloc | apply Kd.R_drewN | apply Kd.R_drew)); exact HO246.out))) (g := gb219) (o := .cells #[.int .i32 t211, .int .i32 t212, .int .i32 t213, .int .u8 t214, .int .u8 t215, .int .u8 t216, .int .u8 t217] 26 (0, 0)) (by (with_reducible repeat (first | refine blk_drewN ?_ _ | refine blk_drew ?_ | refine blk_alloc ?_ _)); exact BK219.out)) (g := gb228) (o := .cells #[.int .i32 t220, .int .i32 t221, .int .i32 t222, .int .u8 t223, .int .u8 t224, .int .u8 t225, .int .u8 t226] 26 (0, 0)) (by (with_reducible repeat (first | refine blk_drewN ?_ _ | refine blk_drew ?_ | refine blk_alloc ?_ _)); exact BK228.out)) (g := gb236) (o := .cells #[.int .i32 t229, .int .i32 t230, .int .i32 t231, .int .u8 t232, .int .u8 t233, .int .u8 t234, .int .u8 t235] 26 (0, 0)) (by (with_reducible repeat (first | refine blk_drewN ?_ _ | refine blk_drew ?_ | refine blk_alloc ?_ _)); exact BK236.out)) (below_size (by repeat (first | (with_reducible first | exact HB.out | apply below_alloc | apply pw_below_drewN | apply below_drew1 | refine below_set ?_ GE219.out | refine below_set ?_ GE228.out | refine below_set ?_ GE236.out) | exact HB.out))))
          have n4_ := Aside0.mk (blk_below (g := gb219) (o := .cells #[.int .i32 t211, .int .i32 t212, .int .i32 t213, .int .u8 t214, .int .u8 t215, .int .u8 t216, .int .u8 t217] 26 (0, 0)) (by (with_reducible repeat (first | refine blk_drewN ?_ _ | refine blk_drew ?_ | refine blk_alloc ?_ _)); exact BK219.out) hb)
          have n5_ := Aside0.mk (blk_below (g := gb228) (o := .cells #[.int .i32 t220, .int .i32 t221, .int .i32 t222, .int .u8 t223, .int .u8 t224, .int .u8 t225, .int .u8 t226] 26 (0, 0)) (by (with_reducible repeat (first | refine blk_drewN ?_ _ | refine blk_drew ?_ | refine blk_alloc ?_ _)); exact BK228.out) hb)
          have n6_ := Aside0.mk (blk_below (g := gb236) (o := .cells #[.int .i32 t229, .int .i32 t230, .int .i32 t231, .int .u8 t232, .int .u8 t233, .int .u8 t234, .int .u8 t235] 26 (0, 0)) (by (with_reducible repeat (first | refine blk_drewN ?_ _ | refine blk_drew ?_ | refine blk_alloc ?_ _)); exact BK236.out) hb)
          have n7_ := Aside0.mk (below_step (by repeat (first | (with_reducible first | exact HB.out | apply below_alloc | apply pw_below_drewN | apply below_drew1 | refine below_set ?_ GE219.out | refine below_set ?_ GE228.out | refine below_set ?_ GE236.out) | exact HB.out)) hb)
          clear HO239
          clear HO242
          clear HO246
          clear BK219
          clear BK228
          clear BK236
          clear HB
          have HO239 := n0_
          have HO242 := n1_
          have HO246 := n2_
          have HO257 := n3_
          have BK219 := n4_
          have BK228 := n5_
          have BK236 := n6_
          have HB := n7_
          clear n0_ n1_ n2_ n3_ n4_ n5_ n6_ n7_
          clear hb ho37
          obtain ⟨Ao38, co38, eo38⟩ := Kd.R_slice HO257.out
          (first | subst eo38 | (injection eo38 with f1_ f2_ f3_; have f4_ := f1_.symm; have f5_ := f3_.symm; clear f1_ f2_ f3_; subst f4_; subst f5_))
          refine hK.out _ _ ⟨(blk_cell BK236.out 0).trans rfl, (blk_cell BK236.out 1).trans rfl, (blk_cell BK236.out 2).trans rfl, (blk_cell BK236.out 3).trans rfl, (blk_cell BK236.out 4).trans rfl, (blk_cell BK236.out 5).trans rfl, (blk_cell BK236.out 6).trans rfl, (blk_cell BK219.out 0).trans rfl, (blk_cell BK219.out 1).trans rfl, (blk_cell BK219.out 2).trans rfl, (blk_cell BK219.out 3).trans rfl, (blk_cell BK219.out 4).trans rfl, (blk_cell BK219.out 5).trans rfl, (blk_cell BK219.out 6).trans rfl, (blk_cell BK228.out 0).trans rfl, (blk_cell BK228.out 1).trans rfl, (blk_cell BK228.out 2).trans rfl, (blk_cell BK228.out 3).trans rfl, (blk_cell BK228.out 4).trans rfl, (blk_cell BK228.out 5).trans rfl, (blk_cell BK228.out 6).trans rfl⟩ (fun hHeld => ?_)
          clear hK K
          refine norm_ (a' := ?_) ?_ ?_
          rotate_left
          · show Act.put _ (some 42) _ = _
            simp only [Act.put, List.setIfInBounds_toArray, List.set_cons_zero, List.set_cons_succ, i64_w, i32_w]
            rfl
          refine one_ (i := 9) (N := some 43) #[true, true, true, true, true, true, true, true, true, true, false, false, false, false, false, false, false, false, false, false, false, false, false, false, false, false, false, false, false] rfl rfl (one_of HT_.out (by kernel_rfl)) (by decide) (fun K hK => ?_)
          refine goes_ Try.func38 (by kernel_rfl) rfl #[.slice Ao32 t240.length co32, .slice Ao38 y255.length co38] (by rfl) rfl rfl (by (try simp only [List.map_toArray, List.map_cons, List.map_nil]); first | done | rfl | (simp only [List.length_drop, List.length_take]; rfl)) ?_
          with_reducible refine (line_Same.calls k _ _ t240 _ _ y255 true _ ?side1 ?side2 ?side3 ?side4 A9.out).mono ?_
          (case side1 => repeat (first | exact (Kd.R_reads' HO242.out).2.2 | (with_reducible refine Kd.C_alloc ?_ _) | (with_reducible refine Kd.C_drewN ?_ _) | (with_reducible refine Kd.C_drew ?_)))
          (case side2 => exact (Kd.R_reads' HO242.out).2.1)
          (case side3 => repeat (first | exact (Kd.R_reads' HO257.out).2.2 | (with_reducible refine Kd.C_alloc ?_ _) | (with_reducible refine Kd.C_drewN ?_ _) | (with_reducible refine Kd.C_drew ?_)))
          (case side4 => exact (Kd.R_reads' HO257.out).2.1)
          rintro e w' ⟨rfl, ⟨nd, rfl⟩⟩
          refine ⟨_, rfl, ?_⟩
          refine hK.out _ _ ⟨(blk_cell BK236.out 0).trans rfl, (blk_cell BK236.out 1).trans rfl, (blk_cell BK236.out 2).trans rfl, (blk_cell BK236.out 3).trans rfl, (blk_cell BK236.out 4).trans rfl, (blk_cell BK236.out 5).trans rfl, (blk_cell BK236.out 6).trans rfl, (blk_cell BK219.out 0).trans rfl, (blk_cell BK219.out 1).trans rfl, (blk_cell BK219.out 2).trans rfl, (blk_cell BK219.out 3).trans rfl, (blk_cell BK219.out 4).trans rfl, (blk_cell BK219.out 5).trans rfl, (blk_cell BK219.out 6).trans rfl, (blk_cell BK228.out 0).trans rfl, (blk_cell BK228.out 1).trans rfl, (blk_cell BK228.out 2).trans rfl, (blk_cell BK228.out 3).trans rfl, (blk_cell BK228.out 4).trans rfl, (blk_cell BK228.out 5).trans rfl, (blk_cell BK228.out 6).trans rfl⟩ (fun hHeld => ?_)
          clear hK K
          refine norm_ (a' := ?_) ?_ ?_
          rotate_left
          · show Act.put _ (some 43) _ = _
            simp only [Act.put, List.setIfInBounds_toArray, List.set_cons_zero, List.set_cons_succ, i64_w, i32_w]
            rfl
          refine pure_ (i := 10) (N := some 44) (v := ?_) (a' := ?_) #[true, true, true, true, true, true, true, true, true, true, true, false, false, false, false, false, false, false, false, false, false, false, false, false, false, false, false, false, false] rfl rfl (any_of HT_.out (by kernel_rfl)) (fun _ _ _ h => h) (Or.inl ⟨by rfl, ?_⟩) ?_ ?_
          rotate_left
          · intro w'
            go_simp
            with_reducible rfl
          rotate_left
          · simp only [Act.put, List.setIfInBounds_toArray, List.set_cons_zero, List.set_cons_succ, i64_w, i32_w]
            rfl
          refine pure_ (i := 11) (N := some 45) (v := ?_) (a' := ?_) #[true, true, true, true, true, true, true, true, true, true, true, true, false, false, false, false, false, false, false, false, false, false, false, false, false, false, false, false, false] rfl rfl (any_of HT_.out (by kernel_rfl)) (fun _ _ _ h => h) (Or.inl ⟨by rfl, ?_⟩) ?_ ?_
          rotate_left
          · intro w'
            go_simp
            with_reducible rfl
          rotate_left
          · simp only [Act.put, List.setIfInBounds_toArray, List.set_cons_zero, List.set_cons_succ, i64_w, i32_w]
            rfl
          refine pure_ (i := 12) (N := some 46) (v := ?_) (a' := ?_) #[true, true, true, true, true, true, true, true, true, true, true, true, true, false, false, false, false, false, false, false, false, false, false, false, false, false, false, false, false] rfl rfl (any_of HT_.out (by kernel_rfl)) (fun _ _ _ h => h) (Or.inl ⟨by rfl, ?_⟩) ?_ ?_
          rotate_left
          · intro w'
            go_simp
            with_reducible rfl
          rotate_left
          · simp only [Act.put, List.setIfInBounds_toArray, List.set_cons_zero, List.set_cons_succ, i64_w, i32_w]
            rfl
          refine pure_ (i := 13) (N := some 47) (v := ?_) (a' := ?_) #[true, true, true, true, true, true, true, true, true, true, true, true, true, true, false, false, false, false, false, false, false, false, false, false, false, false, false, false, false] rfl rfl (any_of HT_.out (by kernel_rfl)) (fun _ _ _ h => h) (Or.inl ⟨by rfl, ?_⟩) ?_ ?_
          rotate_left
          · intro w'
            go_simp
            with_reducible rfl
          rotate_left
          · simp only [Act.put, List.setIfInBounds_toArray, List.set_cons_zero, List.set_cons_succ, i64_w, i32_w]
            rfl
          refine pure_ (i := 14) (N := some 48) (v := ?_) (a' := ?_) #[true, true, true, true, true, true, true, true, true, true, true, true, true, true, true, false, false, false, false, false, false, false, false, false, false, false, false, false, false] rfl rfl (any_of HT_.out (by kernel_rfl)) (fun _ _ _ h => h) (Or.inl ⟨by rfl, ?_⟩) ?_ ?_
          rotate_left
          · intro w'
            go_simp
            with_reducible rfl
          rotate_left
          · simp only [Act.put, List.setIfInBounds_toArray, List.set_cons_zero, List.set_cons_succ, i64_w, i32_w]
            rfl
          refine pure_ (i := 15) (N := some 49) (v := ?_) (a' := ?_) #[true, true, true, true, true, true, true, true, true, true, true, true, true, true, true, true, false, false, false, false, false, false, false, false, false, false, false, false, false] rfl rfl (any_of HT_.out (by kernel_rfl)) (fun _ _ _ h => h) (Or.inl ⟨by rfl, ?_⟩) ?_ ?_
          rotate_left
          · intro w'
            go_simp
            with_reducible rfl
          rotate_left
          · simp only [Act.put, List.setIfInBounds_toArray, List.set_cons_zero, List.set_cons_succ, i64_w, i32_w]
            rfl
          refine take_ (i := 16) (N := some 50) (v := ?_) (a' := ?_) #[true, true, true, true, true, true, true, true, true, true, true, true, true, true, true, true, true, false, false, false, false, false, false, false, false, false, false, false, false] rfl rfl (take_ofW HT_.out HW_.out (by kernel_rfl)) (fun _ _ _ h => h) (Or.inl ⟨by rfl, ?_⟩) hHeld ?_ ?_
          rotate_left
          · rintro w' ⟨s0, s1, s2, s3, s4, s5, s6, s7, s8, s9, s10, s11, s12, s13, s14, s15, s16, s17, s18, s19, s20⟩
            go_simp
            with_reducible rfl
          rotate_left
          · simp only [Act.put, List.setIfInBounds_toArray, List.set_cons_zero, List.set_cons_succ, i64_w, i32_w]
            rfl
          refine take_ (i := 17) (N := some 51) (v := ?_) (a' := ?_) #[true, true, true, true, true, true, true, true, true, true, true, true, true, true, true, true, true, true, false, false, false, false, false, false, false, false, false, false, false] rfl rfl (take_ofW HT_.out HW_.out (by kernel_rfl)) (fun _ _ _ h => h) (Or.inl ⟨by rfl, ?_⟩) hHeld ?_ ?_
          rotate_left
          · rintro w' ⟨s0, s1, s2, s3, s4, s5, s6, s7, s8, s9, s10, s11, s12, s13, s14, s15, s16, s17, s18, s19, s20⟩
            go_simp
            with_reducible rfl
          rotate_left
          · simp only [Act.put, List.setIfInBounds_toArray, List.set_cons_zero, List.set_cons_succ, i64_w, i32_w]
            rfl
          refine take_ (i := 18) (N := some 52) (v := ?_) (a' := ?_) #[true, true, true, true, true, true, true, true, true, true, true, true, true, true, true, true, true, true, true, false, false, false, false, false, false, false, false, false, false] rfl rfl (take_ofW HT_.out HW_.out (by kernel_rfl)) (fun _ _ _ h => h) (Or.inl ⟨by rfl, ?_⟩) hHeld ?_ ?_
          rotate_left
          · rintro w' ⟨s0, s1, s2, s3, s4, s5, s6, s7, s8, s9, s10, s11, s12, s13, s14, s15, s16, s17, s18, s19, s20⟩
            go_simp
            with_reducible rfl
          rotate_left
          · simp only [Act.put, List.setIfInBounds_toArray, List.set_cons_zero, List.set_cons_succ, i64_w, i32_w]
            rfl
          refine take_ (i := 19) (N := some 53) (v := ?_) (a' := ?_) #[true, true, true, true, true, true, true, true, true, true, true, true, true, true, true, true, true, true, true, true, false, false, false, false, false, false, false, false, false] rfl rfl (take_ofW HT_.out HW_.out (by kernel_rfl)) (fun _ _ _ h => h) (Or.inl ⟨by rfl, ?_⟩) hHeld ?_ ?_
          rotate_left
          · rintro w' ⟨s0, s1, s2, s3, s4, s5, s6, s7, s8, s9, s10, s11, s12, s13, s14, s15, s16, s17, s18, s19, s20⟩
            go_simp
            with_reducible rfl
          rotate_left
          · simp only [Act.put, List.setIfInBounds_toArray, List.set_cons_zero, List.set_cons_succ, i64_w, i32_w]
            rfl
          refine one_ (i := 20) (N := some 54) #[true, true, true, true, true, true, true, true, true, true, true, true, true, true, true, true, true, true, true, true, true, false, false, false, false, false, false, false, false] rfl rfl (one_of HT_.out (by kernel_rfl)) (by decide) (fun K hK => ?_)
          refine Kd.R_lit_step k26 _ 26 ?hg (N := 54) ?hd (xs := ([(⟨t229, (⟨t230, t231⟩ : S22), t232, (⟨t233, t234, t235⟩ : S24)⟩ : S26), (⟨t229, (⟨t230, t231⟩ : S22), t232, (⟨t233, t234, t235⟩ : S24)⟩ : S26), (⟨t220, (⟨t221, t222⟩ : S22), t223, (⟨t224, t225, t226⟩ : S24)⟩ : S26), (⟨t229, (⟨t230, t231⟩ : S22), t232, (⟨t233, t234, t235⟩ : S24)⟩ : S26)] : List (S26))) (inner := [.int .i32 t229, .int .i32 t230, .int .i32 t231, .int .u8 t232, .int .u8 t233, .int .u8 t234, .int .u8 t235, .int .i32 t229, .int .i32 t230, .int .i32 t231, .int .u8 t232, .int .u8 t233, .int .u8 t234, .int .u8 t235, .int .i32 t220, .int .i32 t221, .int .i32 t222, .int .u8 t223, .int .u8 t224, .int .u8 t225, .int .u8 t226, .int .i32 t229, .int .i32 t230, .int .i32 t231, .int .u8 t232, .int .u8 t233, .int .u8 t234, .int .u8 t235]) (ok := fun _ => True) (okp := fun _ => True) ?hr ?hp (fun _ hk => hk) trivial (Below.refl _ _) (Nat.le_refl _) (by simp) ?_; (case hd => rfl); (case hg => rfl); (case hr => first | (go_simp; done) | (go_simp; rfl)); (case hp => exact (Reps.c7 (show Kd.M k26 _ _ _ (⟨t229, (⟨t230, t231⟩ : S22), t232, (⟨t233, t234, t235⟩ : S24)⟩ : S26) [.int .i32 t229, .int .i32 t230, .int .i32 t231, .int .u8 t232, .int .u8 t233, .int .u8 t234, .int .u8 t235] from (k26_mkM _ _ _ (⟨t229, (⟨t230, t231⟩ : S22), t232, (⟨t233, t234, t235⟩ : S24)⟩ : S26) )) (Reps.c7 (show Kd.M k26 _ _ _ (⟨t229, (⟨t230, t231⟩ : S22), t232, (⟨t233, t234, t235⟩ : S24)⟩ : S26) [.int .i32 t229, .int .i32 t230, .int .i32 t231, .int .u8 t232, .int .u8 t233, .int .u8 t234, .int .u8 t235] from (k26_mkM _ _ _ (⟨t229, (⟨t230, t231⟩ : S22), t232, (⟨t233, t234, t235⟩ : S24)⟩ : S26) )) (Reps.c7 (show Kd.M k26 _ _ _ (⟨t220, (⟨t221, t222⟩ : S22), t223, (⟨t224, t225, t226⟩ : S24)⟩ : S26) [.int .i32 t220, .int .i32 t221, .int .i32 t222, .int .u8 t223, .int .u8 t224, .int .u8 t225, .int .u8 t226] from (k26_mkM _ _ _ (⟨t220, (⟨t221, t222⟩ : S22), t223, (⟨t224, t225, t226⟩ : S24)⟩ : S26) )) (Reps.c7 (show Kd.M k26 _ _ _ (⟨t229, (⟨t230, t231⟩ : S22), t232, (⟨t233, t234, t235⟩ : S24)⟩ : S26) [.int .i32 t229, .int .i32 t230, .int .i32 t231, .int .u8 t232, .int .u8 t233, .int .u8 t234, .int .u8 t235] from (k26_mkM _ _ _ (⟨t229, (⟨t230, t231⟩ : S22), t232, (⟨t233, t234, t235⟩ : S24)⟩ : S26) )) (Reps.none _ _))))))
          intro v260 w39 ho40 hb hg_ hnew_
          clear hg_ hnew_
          (first | rw [← Ny259.out] at ho40 | (simp only [Int.reduceToNat] at ho40; rw [← Ny259.out] at ho40))
          have n0_ := Aside0.mk (Kd.R_elder' (by (with_reducible repeat (first | apply Kd.R_alloc | apply Kd.R_drewN | apply Kd.R_drew)); exact HO239.out) (Kd.R_base ho40) hb)
          have n1_ := Aside0.mk (Kd.R_elder' (by (with_reducible repeat (first | apply Kd.R_alloc | apply Kd.R_drewN | apply Kd.R_drew)); exact HO242.out) (Kd.R_base ho40) hb)
          have n2_ := Aside0.mk (Kd.R_elder' (by (with_reducible repeat (first | apply Kd.R_alloc | apply Kd.R_drewN | apply Kd.R_drew)); exact HO246.out) (Kd.R_base ho40) hb)
          have n3_ := Aside0.mk (Kd.R_elder' (by (with_reducible repeat (first | apply Kd.R_alloc | apply Kd.R_drewN | apply Kd.R_drew)); exact HO257.out) (Kd.R_base ho40) hb)
          have n4_ := Aside0.mk (Kd.R_lower (Kd.R_newB (Kd.R_newB (Kd.R_newB (Kd.R_new' (Kd.R_new' (Kd.R_new' (Kd.R_new' ho40 (Kd.R_lt (by (with_reducible repeat (first | apply Kd.R_alloc | apply Kd.R_drewN | apply Kd.R_drew)); exact HO239.out))) (Kd.R_lt (by (with_reducible repeat (first | apply Kd.R_alloc | apply Kd.R_drewN | apply Kd.R_drew)); exact HO242.out))) (Kd.R_lt (by (with_reducible repeat (first | apply Kd.R_alloc | apply Kd.R_drewN | apply Kd.R_drew)); exact HO246.out))) (Kd.R_lt (by (with_reducible repeat (first | apply Kd.R_alloc | apply Kd.R_drewN | apply Kd.R_drew)); exact HO257.out))) (g := gb219) (o := .cells #[.int .i32 t211, .int .i32 t212, .int .i32 t213, .int .u8 t214, .int .u8 t215, .int .u8 t216, .int .u8 t217] 26 (0, 0)) (by (with_reducible repeat (first | refine blk_drewN ?_ _ | refine blk_drew ?_ | refine blk_alloc ?_ _)); exact BK219.out)) (g := gb228) (o := .cells #[.int .i32 t220, .int .i32 t221, .int .i32 t222, .int .u8 t223, .int .u8 t224, .int .u8 t225, .int .u8 t226] 26 (0, 0)) (by (with_reducible repeat (first | refine blk_drewN ?_ _ | refine blk_drew ?_ | refine blk_alloc ?_ _)); exact BK228.out)) (g := gb236) (o := .cells #[.int .i32 t229, .int .i32 t230, .int .i32 t231, .int .u8 t232, .int .u8 t233, .int .u8 t234, .int .u8 t235] 26 (0, 0)) (by (with_reducible repeat (first | refine blk_drewN ?_ _ | refine blk_drew ?_ | refine blk_alloc ?_ _)); exact BK236.out)) (below_size (by repeat (first | (with_reducible first | exact HB.out | apply below_alloc | apply pw_below_drewN | apply below_drew1 | refine below_set ?_ GE219.out | refine below_set ?_ GE228.out | refine below_set ?_ GE236.out) | exact HB.out))))
          have n5_ := Aside0.mk (blk_below (g := gb219) (o := .cells #[.int .i32 t211, .int .i32 t212, .int .i32 t213, .int .u8 t214, .int .u8 t215, .int .u8 t216, .int .u8 t217] 26 (0, 0)) (by (with_reducible repeat (first | refine blk_drewN ?_ _ | refine blk_drew ?_ | refine blk_alloc ?_ _)); exact BK219.out) hb)
          have n6_ := Aside0.mk (blk_below (g := gb228) (o := .cells #[.int .i32 t220, .int .i32 t221, .int .i32 t222, .int .u8 t223, .int .u8 t224, .int .u8 t225, .int .u8 t226] 26 (0, 0)) (by (with_reducible repeat (first | refine blk_drewN ?_ _ | refine blk_drew ?_ | refine blk_alloc ?_ _)); exact BK228.out) hb)
          have n7_ := Aside0.mk (blk_below (g := gb236) (o := .cells #[.int .i32 t229, .int .i32 t230, .int .i32 t231, .int .u8 t232, .int .u8 t233, .int .u8 t234, .int .u8 t235] 26 (0, 0)) (by (with_reducible repeat (first | refine blk_drewN ?_ _ | refine blk_drew ?_ | refine blk_alloc ?_ _)); exact BK236.out) hb)
          have n8_ := Aside0.mk (below_step (by repeat (first | (with_reducible first | exact HB.out | apply below_alloc | apply pw_below_drewN | apply below_drew1 | refine below_set ?_ GE219.out | refine below_set ?_ GE228.out | refine below_set ?_ GE236.out) | exact HB.out)) hb)
          clear HO239
          clear HO242
          clear HO246
          clear HO257
          clear BK219
          clear BK228
          clear BK236
          clear HB
          have HO239 := n0_
          have HO242 := n1_
          have HO246 := n2_
          have HO257 := n3_
          have HO261 := n4_
          have BK219 := n5_
          have BK228 := n6_
          have BK236 := n7_
          have HB := n8_
          clear n0_ n1_ n2_ n3_ n4_ n5_ n6_ n7_ n8_
          clear hb ho40
          obtain ⟨Ao41, co41, eo41⟩ := Kd.R_slice HO246.out
          (first | subst eo41 | (injection eo41 with f1_ f2_ f3_; have f4_ := f1_.symm; have f5_ := f3_.symm; clear f1_ f2_ f3_; subst f4_; subst f5_))
          obtain ⟨Ao42, co42, eo42⟩ := Kd.R_slice HO261.out
          (first | subst eo42 | (injection eo42 with f1_ f2_ f3_; have f4_ := f1_.symm; have f5_ := f3_.symm; clear f1_ f2_ f3_; subst f4_; subst f5_))
          refine hK.out _ _ ⟨(blk_cell BK236.out 0).trans rfl, (blk_cell BK236.out 1).trans rfl, (blk_cell BK236.out 2).trans rfl, (blk_cell BK236.out 3).trans rfl, (blk_cell BK236.out 4).trans rfl, (blk_cell BK236.out 5).trans rfl, (blk_cell BK236.out 6).trans rfl, (blk_cell BK219.out 0).trans rfl, (blk_cell BK219.out 1).trans rfl, (blk_cell BK219.out 2).trans rfl, (blk_cell BK219.out 3).trans rfl, (blk_cell BK219.out 4).trans rfl, (blk_cell BK219.out 5).trans rfl, (blk_cell BK219.out 6).trans rfl, (blk_cell BK228.out 0).trans rfl, (blk_cell BK228.out 1).trans rfl, (blk_cell BK228.out 2).trans rfl, (blk_cell BK228.out 3).trans rfl, (blk_cell BK228.out 4).trans rfl, (blk_cell BK228.out 5).trans rfl, (blk_cell BK228.out 6).trans rfl⟩ (fun hHeld => ?_)
          clear hK K
          refine norm_ (a' := ?_) ?_ ?_
          rotate_left
          · show Act.put _ (some 54) _ = _
            simp only [Act.put, List.setIfInBounds_toArray, List.set_cons_zero, List.set_cons_succ, i64_w, i32_w]
            rfl
          refine one_ (i := 21) (N := some 55) #[true, true, true, true, true, true, true, true, true, true, true, true, true, true, true, true, true, true, true, true, true, true, false, false, false, false, false, false, false] rfl rfl (one_of HT_.out (by kernel_rfl)) (by decide) (fun K hK => ?_)
          refine goes_ Try.func38 (by kernel_rfl) rfl #[.slice Ao41 t244.length co41, .slice Ao42 y259.length co42] (by rfl) rfl rfl (by (try simp only [List.map_toArray, List.map_cons, List.map_nil]); first | done | rfl | (simp only [List.length_drop, List.length_take]; rfl)) ?_
          with_reducible refine (line_Same.calls k _ _ t244 _ _ y259 true _ ?side1 ?side2 ?side3 ?side4 A12.out).mono ?_
          (case side1 => repeat (first | exact (Kd.R_reads' HO246.out).2.2 | (with_reducible refine Kd.C_alloc ?_ _) | (with_reducible refine Kd.C_drewN ?_ _) | (with_reducible refine Kd.C_drew ?_)))
          (case side2 => exact (Kd.R_reads' HO246.out).2.1)
          (case side3 => repeat (first | exact (Kd.R_reads' HO261.out).2.2 | (with_reducible refine Kd.C_alloc ?_ _) | (with_reducible refine Kd.C_drewN ?_ _) | (with_reducible refine Kd.C_drew ?_)))
          (case side4 => exact (Kd.R_reads' HO261.out).2.1)
          rintro e w' ⟨rfl, ⟨nd, rfl⟩⟩
          refine ⟨_, rfl, ?_⟩
          refine hK.out _ _ ⟨(blk_cell BK236.out 0).trans rfl, (blk_cell BK236.out 1).trans rfl, (blk_cell BK236.out 2).trans rfl, (blk_cell BK236.out 3).trans rfl, (blk_cell BK236.out 4).trans rfl, (blk_cell BK236.out 5).trans rfl, (blk_cell BK236.out 6).trans rfl, (blk_cell BK219.out 0).trans rfl, (blk_cell BK219.out 1).trans rfl, (blk_cell BK219.out 2).trans rfl, (blk_cell BK219.out 3).trans rfl, (blk_cell BK219.out 4).trans rfl, (blk_cell BK219.out 5).trans rfl, (blk_cell BK219.out 6).trans rfl, (blk_cell BK228.out 0).trans rfl, (blk_cell BK228.out 1).trans rfl, (blk_cell BK228.out 2).trans rfl, (blk_cell BK228.out 3).trans rfl, (blk_cell BK228.out 4).trans rfl, (blk_cell BK228.out 5).trans rfl, (blk_cell BK228.out 6).trans rfl⟩ (fun hHeld => ?_)
          clear hK K
          refine norm_ (a' := ?_) ?_ ?_
          rotate_left
          · show Act.put _ (some 55) _ = _
            simp only [Act.put, List.setIfInBounds_toArray, List.set_cons_zero, List.set_cons_succ, i64_w, i32_w]
            rfl
          refine pure_ (i := 22) (N := some 56) (v := ?_) (a' := ?_) #[true, true, true, true, true, true, true, true, true, true, true, true, true, true, true, true, true, true, true, true, true, true, true, false, false, false, false, false, false] rfl rfl (any_of HT_.out (by kernel_rfl)) (fun _ _ _ h => h) (Or.inl ⟨by rfl, ?_⟩) ?_ ?_
          rotate_left
          · intro w'
            go_simp
            with_reducible rfl
          rotate_left
          · simp only [Act.put, List.setIfInBounds_toArray, List.set_cons_zero, List.set_cons_succ, i64_w, i32_w]
            rfl
          refine pure_ (i := 23) (N := some 57) (v := ?_) (a' := ?_) #[true, true, true, true, true, true, true, true, true, true, true, true, true, true, true, true, true, true, true, true, true, true, true, true, false, false, false, false, false] rfl rfl (any_of HT_.out (by kernel_rfl)) (fun _ _ _ h => h) (Or.inl ⟨by rfl, ?_⟩) ?_ ?_
          rotate_left
          · intro w'
            go_simp
            with_reducible rfl
          rotate_left
          · simp only [Act.put, List.setIfInBounds_toArray, List.set_cons_zero, List.set_cons_succ, i64_w, i32_w]
            rfl
          refine pure_ (i := 24) (N := some 58) (v := ?_) (a' := ?_) #[true, true, true, true, true, true, true, true, true, true, true, true, true, true, true, true, true, true, true, true, true, true, true, true, true, false, false, false, false] rfl rfl (any_of HT_.out (by kernel_rfl)) (fun _ _ _ h => h) (Or.inl ⟨by rfl, ?_⟩) ?_ ?_
          rotate_left
          · intro w'
            go_simp
            with_reducible rfl
          rotate_left
          · simp only [Act.put, List.setIfInBounds_toArray, List.set_cons_zero, List.set_cons_succ, i64_w, i32_w]
            rfl
          refine take_ (i := 25) (N := some 59) (v := ?_) (a' := ?_) #[true, true, true, true, true, true, true, true, true, true, true, true, true, true, true, true, true, true, true, true, true, true, true, true, true, true, false, false, false] rfl rfl (take_ofW HT_.out HW_.out (by kernel_rfl)) (fun _ _ _ h => h) (Or.inl ⟨by rfl, ?_⟩) hHeld ?_ ?_
          rotate_left
          · rintro w' ⟨s0, s1, s2, s3, s4, s5, s6, s7, s8, s9, s10, s11, s12, s13, s14, s15, s16, s17, s18, s19, s20⟩
            go_simp
            with_reducible rfl
          rotate_left
          · simp only [Act.put, List.setIfInBounds_toArray, List.set_cons_zero, List.set_cons_succ, i64_w, i32_w]
            rfl
          refine pure_ (i := 26) (N := some 60) (v := ?_) (a' := ?_) #[true, true, true, true, true, true, true, true, true, true, true, true, true, true, true, true, true, true, true, true, true, true, true, true, true, true, true, false, false] rfl rfl (any_of HT_.out (by kernel_rfl)) (fun _ _ _ h => h) (Or.inl ⟨by rfl, ?_⟩) ?_ ?_
          rotate_left
          · intro w'
            go_simp
            with_reducible rfl
          rotate_left
          · simp only [Act.put, List.setIfInBounds_toArray, List.set_cons_zero, List.set_cons_succ, i64_w, i32_w]
            rfl
          refine pure_ (i := 27) (N := some 61) (v := ?_) (a' := ?_) #[true, true, true, true, true, true, true, true, true, true, true, true, true, true, true, true, true, true, true, true, true, true, true, true, true, true, true, true, false] rfl rfl (any_of HT_.out (by kernel_rfl)) (fun _ _ _ h => h) (Or.inl ⟨by rfl, ?_⟩) ?_ ?_
          rotate_left
          · intro w'
            go_simp
            with_reducible rfl
          rotate_left
          · simp only [Act.put, List.setIfInBounds_toArray, List.set_cons_zero, List.set_cons_succ, i64_w, i32_w]
            rfl
          refine pure_ (i := 28) (N := some 0) (v := ?_) (a' := ?_) #[true, true, true, true, true, true, true, true, true, true, true, true, true, true, true, true, true, true, true, true, true, true, true, true, true, true, true, true, true] rfl rfl (any_of HT_.out (by kernel_rfl)) (fun _ _ _ h => h) (Or.inl ⟨by rfl, ?_⟩) ?_ ?_
          rotate_left
          · intro w'
            go_simp
            with_reducible rfl
          rotate_left
          · simp only [Act.put, List.setIfInBounds_toArray, List.set_cons_zero, List.set_cons_succ, i64_w, i32_w]
            rfl
          refine done_ (done_of HT_.out (by kernel_rfl)) ?_
          try go_wp2
          go_ret
          exact ⟨by first | rfl | (simp [errW_none, errW_some] <;> rfl) | (simp [*, errW_none, errW_some] <;> rfl), by repeat (first | (with_reducible first | exact HB.out | apply below_alloc | apply pw_below_drewN | apply below_drew1 | refine below_set ?_ GE219.out | refine below_set ?_ GE228.out | refine below_set ?_ GE236.out) | exact HB.out)⟩
        · replace c13 := Bool.eq_false_iff.mpr c13
          subst c13
          have H1 : (some false) = some r := by rw [if_neg (show ¬ (false = true) by decide)] at H; exact H
          rw [HRT.out] at H1; cases H1
      · replace c11 := Bool.eq_false_iff.mpr c11
        subst c11
        have H1 : (some false) = some r := by rw [if_neg (show ¬ (false = true) by decide)] at H; exact H
        rw [HRT.out] at H1; cases H1
    · replace c10 := Bool.eq_false_iff.mpr c10
      subst c10
      have H1 : (some false) = some r := by rw [if_neg (show ¬ (false = true) by decide)] at H; exact H
      rw [HRT.out] at H1; cases H1
  · replace c7 := Bool.eq_false_iff.mpr c7
    subst c7
    have H1 : (some false) = some r := by rw [if_neg (show ¬ (false = true) by decide)] at H; exact H
    rw [HRT.out] at H1; cases H1/-! ### prolepsislaw06_known: function 41: of own contracts -/
def prolepsislaw06_known.f  : Option (Bool) := some true
theorem prolepsislaw06_known.calls  (r : Bool) (w : World) (h : prolepsislaw06_known.f  = some r) :
    Calls Try.prog 41 #[] w fun e w' => e = .returned (.bool r) ∧ Below w.heap.size w w' := by
  cases h
  exact prolepsislaw06_knownB.calls 100 true w (by decide +kernel) rfl

end Go.Proofs.Ytblcmcdifgclcaa.PLineTwice
