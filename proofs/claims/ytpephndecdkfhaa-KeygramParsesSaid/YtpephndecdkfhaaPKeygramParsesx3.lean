/- What the law KeygramParses reaches: each function with its contract. -/
import Derived.Test.YtpephndecdkfhaaPKeygramParsesx0
import Derived.Test.YtpephndecdkfhaaPKeygramParsesx2
namespace Go.Proofs.Ytpephndecdkfhaa.PKeygramParses
open Go.RowKit Go.Proofs.YtpephndecdkfhaaW.PrintWords Go.Proofs.YtpephndecdkfhaaW.PrintLast Go.Proofs.YtpephndecdkfhaaW.PrintMore
attribute [local go_sem] isSome_setCell max2_int min2_int max_two min_two max_three min_three max_four min_four   -- for this text's walks alone
set_option linter.unusedVariables false
set_option linter.unusedSimpArgs false

/-! ### prolepsisref14_Check: function 41 -/
mutual
def prolepsisref14_Check.l0 : Nat → Int → Int → Int → Int → Int → Int → List ByteArray → Option (Int)
  | 0, _, _, _, _, _, _, _ => none
  | k + 1, x3, x150000, x150001, x150002, x150003, x150004, x150005 => if x3 < (x150005.length : Int) then (if 0 ≤ x3 then (if (rdOf ByteArray.empty x150005 x3).toList = ([] : List UInt8) then (some 3) else (if ((rdOf ByteArray.empty x150005 x3).size : Int) > 8 then (some 2) else (prolepsisref14_Check.l0 k (wrap64 (x3 + 1)) x150000 x150001 x150002 x150003 x150004 x150005))) else (none)) else (prolepsisref14_Check.l1 k x150004 1 x150000 x150001 x150002 x150003 x150004 x150005)
def prolepsisref14_Check.l1 : Nat → Int → Int → Int → Int → Int → Int → Int → List ByteArray → Option (Int)
  | 0, _, _, _, _, _, _, _, _ => none
  | k + 1, x4, x5, x150000, x150001, x150002, x150003, x150004, x150005 => if x5 < (x150005.length : Int) then (if (IntKind.u64.wrap (x4 + 1)) = 0 then (some 5) else (prolepsisref14_Check.l1 k (IntKind.u64.wrap (x4 + 1)) (wrap64 (x5 + 1)) x150000 x150001 x150002 x150003 x150004 x150005)) else (some 0)
end
def prolepsisref14_Check.f (k : Nat) (a0_0 : Int) (a0_1 : Int) (a0_2 : Int) (a0_3 : Int) (a0_4 : Int) (l0_5 : List ByteArray) : Option (Int) := (prolepsisref07_Size.f a0_2 a0_3).bind fun t150 => (if t150 = true then (if a0_4 = 0 then (some 5) else (if (l0_5.length : Int) > 64 then (some 6) else (prolepsisref14_Check.l0 k 0 a0_0 a0_1 a0_2 a0_3 a0_4 l0_5))) else (some 11))
theorem prolepsisref14_Check.mono_l : ∀ k, (∀ y0 y1 y2 y3 y4 y5 y6, LeO (prolepsisref14_Check.l0 k y0 y1 y2 y3 y4 y5 y6) (prolepsisref14_Check.l0 (k + 1) y0 y1 y2 y3 y4 y5 y6)) ∧ (∀ y0 y1 y2 y3 y4 y5 y6 y7, LeO (prolepsisref14_Check.l1 k y0 y1 y2 y3 y4 y5 y6 y7) (prolepsisref14_Check.l1 (k + 1) y0 y1 y2 y3 y4 y5 y6 y7))
  | 0 => ⟨fun _ _ _ _ _ _ _ r h => by simp [prolepsisref14_Check.l0] at h, fun _ _ _ _ _ _ _ _ r h => by simp [prolepsisref14_Check.l1] at h⟩
  | k + 1 => by
    obtain ⟨ih0, ih1⟩ := prolepsisref14_Check.mono_l k
    refine ⟨?_, ?_⟩
    · intro y0 y1 y2 y3 y4 y5 y6
      unfold prolepsisref14_Check.l0
      repeat' first
      | (with_reducible exact ih0 _ _ _ _ _ _ _)
      | (with_reducible exact ih1 _ _ _ _ _ _ _ _)
      | (with_reducible exact LeO.refl _)
      | (with_reducible exact LeO.none _)
      | (with_reducible refine LeO.ite ?_ ?_)
      | (with_reducible refine LeO.bind ?_ (fun _ => ?_))
      | exact ih0 _ _ _ _ _ _ _
      | exact ih1 _ _ _ _ _ _ _ _
      | exact LeO.none _
      | refine LeO.ite ?_ ?_
      | refine LeO.bind ?_ (fun _ => ?_)
    · intro y0 y1 y2 y3 y4 y5 y6 y7
      unfold prolepsisref14_Check.l1
      repeat' first
      | (with_reducible exact ih0 _ _ _ _ _ _ _)
      | (with_reducible exact ih1 _ _ _ _ _ _ _ _)
      | (with_reducible exact LeO.refl _)
      | (with_reducible exact LeO.none _)
      | (with_reducible refine LeO.ite ?_ ?_)
      | (with_reducible refine LeO.bind ?_ (fun _ => ?_))
      | exact ih0 _ _ _ _ _ _ _
      | exact ih1 _ _ _ _ _ _ _ _
      | exact LeO.none _
      | refine LeO.ite ?_ ?_
      | refine LeO.bind ?_ (fun _ => ?_)
theorem prolepsisref14_Check.mono : ∀ a0 a1 a2 a3 a4 a5 k, LeO (prolepsisref14_Check.f k a0 a1 a2 a3 a4 a5) (prolepsisref14_Check.f (k + 1) a0 a1 a2 a3 a4 a5) := by
  intro a0 a1 a2 a3 a4 a5 k
  obtain ⟨ih0, ih1⟩ := prolepsisref14_Check.mono_l k
  unfold prolepsisref14_Check.f
  repeat' first
      | (with_reducible exact ih0 _ _ _ _ _ _ _)
      | (with_reducible exact ih1 _ _ _ _ _ _ _ _)
      | (with_reducible exact LeO.refl _)
      | (with_reducible exact LeO.none _)
      | (with_reducible refine LeO.ite ?_ ?_)
      | (with_reducible refine LeO.bind ?_ (fun _ => ?_))
      | exact ih0 _ _ _ _ _ _ _
      | exact ih1 _ _ _ _ _ _ _ _
      | exact LeO.none _
      | refine LeO.ite ?_ ?_
      | refine LeO.bind ?_ (fun _ => ?_)
set_option maxHeartbeats 8000000 in
set_option maxRecDepth 100000 in
theorem prolepsisref14_Check.calls (k : Nat) (a0_0 : Int) (a0_1 : Int) (a0_2 : Int) (a0_3 : Int) (a0_4 : Int) (A0_5 : Option Addr) (c0_5 : Nat) (l0_5 : List ByteArray) (r : Int) (w : World) (hr0_5 : Kd.C Kd.string w A0_5 l0_5.length l0_5) (hc0_5 : l0_5.length ≤ c0_5) (h : prolepsisref14_Check.f k a0_0 a0_1 a0_2 a0_3 a0_4 l0_5 = some r) :
    Calls Try.prog 41 #[.agg #[.int .u64 a0_0, .int .u64 a0_1, .int .i64 a0_2, .int .i64 a0_3, .int .u64 a0_4, .slice A0_5 l0_5.length c0_5]] w fun e w' => e = .returned (.int .i64 r) ∧ Below w.heap.size w w' := by
  have hu71 := Try.underlying71
  have HR0_5 := Aside0.mk hr0_5
  have HC0_5 := Aside0.mk hc0_5
  clear hr0_5 hc0_5
  have HB := Aside0.mk (Below.refl w.heap.size w)
  have H : ((prolepsisref07_Size.f a0_2 a0_3).bind fun t150 => (if t150 = true then (if a0_4 = 0 then (some 5) else (if (l0_5.length : Int) > 64 then (some 6) else (prolepsisref14_Check.l0 k 0 a0_0 a0_1 a0_2 a0_3 a0_4 l0_5))) else (some 11))) = some r := h
  clear h
  replace H := Option.bind_eq_some_iff.mp H
  obtain ⟨t150, A20, H⟩ := H
  replace H : (if t150 = true then (if a0_4 = 0 then (some 5) else (if (l0_5.length : Int) > 64 then (some 6) else (prolepsisref14_Check.l0 k 0 a0_0 a0_1 a0_2 a0_3 a0_4 l0_5))) else (some 11)) = some r := H
  have A2 := Aside0.mk A20
  clear A20
  by_cases c3 : t150 = true
  · subst c3
    have H1 : (if a0_4 = 0 then (some 5) else (if (l0_5.length : Int) > 64 then (some 6) else (prolepsisref14_Check.l0 k 0 a0_0 a0_1 a0_2 a0_3 a0_4 l0_5))) = some r := by rw [if_pos rfl] at H; exact H
    clear H
    have H := H1
    clear H1
    by_cases c4 : a0_4 = 0
    · rw [if_pos c4] at H
      have c4b0 : (a0_4 == 0) = true := beq_iff_eq.mpr c4
      have c4b1 : (a0_4 != 0) = false := bne_eq_false_iff_eq.mpr c4
      clear c4
      obtain rfl := Option.some.inj H
      go_enter Try.func41, Try.ntmps41
      go_wp2_with (first | ((with_reducible refine gate_dst (N := 1) rfl ?_); refine box_event ?hg (N := 1) ?hd (cs := #[.int .u64 a0_0, .int .u64 a0_1, .int .i64 a0_2, .int .i64 a0_3, .int .u64 a0_4, .slice A0_5 l0_5.length c0_5]) (t := 71) ?hr ?_; (case hd => rfl); (case hg => rfl); (case hr => first | (go_simp; done) | (go_simp; rfl)); intro gb149 hg w5 hbox hb; have n0_ := Aside0.mk (below_step (by repeat (first | (with_reducible first | exact HB.out | apply below_alloc | apply pw_below_drewN | apply below_drew1) | exact HB.out)) hb); have n1_ := Aside0.mk (hbox); have n2_ := Aside0.mk ((by rw [hg]; exact (below_size (by repeat (first | (with_reducible first | exact HB.out | apply below_alloc | apply pw_below_drewN | apply below_drew1) | exact HB.out))) : w.heap.size ≤ gb149)); have n3_ := Aside0.mk ((by rw [hg]; exact (below_size (by repeat (first | (with_reducible first | exact HB.out | apply below_alloc | apply pw_below_drewN | apply below_drew1) | exact HB.out))) : w.heap.size ≤ gb149)); clear HB; have HB := n0_; have BK149 := n1_; have GW149 := n2_; have GE149 := n3_; clear n0_ n1_ n2_ n3_; clear hb hbox hg; have hcz6_0 : w5.cell? ⟨gb149, 0, none⟩ = some (.int .u64 a0_0) := (blk_cell BK149.out 0).trans rfl; have hcz6_1 : w5.cell? ⟨gb149, 1, none⟩ = some (.int .u64 a0_1) := (blk_cell BK149.out 1).trans rfl; have hcz6_2 : w5.cell? ⟨gb149, 2, none⟩ = some (.int .i64 a0_2) := (blk_cell BK149.out 2).trans rfl; have hcz6_3 : w5.cell? ⟨gb149, 3, none⟩ = some (.int .i64 a0_3) := (blk_cell BK149.out 3).trans rfl; have hcz6_4 : w5.cell? ⟨gb149, 4, none⟩ = some (.int .u64 a0_4) := (blk_cell BK149.out 4).trans rfl; have hcz6_5 : w5.cell? ⟨gb149, 5, none⟩ = some (.slice A0_5 l0_5.length c0_5) := (blk_cell BK149.out 5).trans rfl; have hfz6_0 := blk_frozen BK149.out 0; have hfz6_1 := blk_frozen BK149.out 1; have hfz6_2 := blk_frozen BK149.out 2; have hfz6_3 := blk_frozen BK149.out 3; have hfz6_4 := blk_frozen BK149.out 4; have hfz6_5 := blk_frozen BK149.out 5) | ((with_reducible refine gate_callee (f := 59) rfl ?_); refine goesL_ (some 10) rfl rfl Try.func59 (by kernel_rfl) rfl #[.int .i64 a0_2, .int .i64 a0_3] rfl (by (try simp only [List.map_toArray, List.map_cons, List.map_nil]); first | done | rfl | (simp only [List.length_drop, List.length_take]; rfl)) ?_; (with_reducible refine (prolepsisref07_Size.calls a0_2 a0_3 true _ A2.out).mono ?_); rintro e w' ⟨rfl, ⟨nd, rfl⟩⟩; refine ⟨_, rfl, ?_⟩))
      go_ret
      exact ⟨by first | rfl | (simp [errW_none, errW_some] <;> rfl) | (simp [*, errW_none, errW_some] <;> rfl), by repeat (first | (with_reducible first | exact HB.out | apply below_alloc | apply pw_below_drewN | apply below_drew1 | refine below_set ?_ GE149.out) | exact HB.out)⟩
    · rw [if_neg c4] at H
      have c4b0 : (a0_4 == 0) = false := beq_eq_false_iff_ne.mpr c4
      have c4b1 : (a0_4 != 0) = true := bne_iff_ne.mpr c4
      by_cases c7 : (l0_5.length : Int) > 64
      · rw [if_pos c7] at H
        have c7b0 : decide (64 < (l0_5.length : Int)) = true := decide_eq_true c7
        have c7b1 : decide (64 < l0_5.length) = true := decide_eq_true (by omega)
        clear c7
        obtain rfl := Option.some.inj H
        go_enter Try.func41, Try.ntmps41
        go_wp2_with (first | ((with_reducible refine gate_dst (N := 1) rfl ?_); refine box_event ?hg (N := 1) ?hd (cs := #[.int .u64 a0_0, .int .u64 a0_1, .int .i64 a0_2, .int .i64 a0_3, .int .u64 a0_4, .slice A0_5 l0_5.length c0_5]) (t := 71) ?hr ?_; (case hd => rfl); (case hg => rfl); (case hr => first | (go_simp; done) | (go_simp; rfl)); intro gb149 hg w8 hbox hb; have n0_ := Aside0.mk (below_step (by repeat (first | (with_reducible first | exact HB.out | apply below_alloc | apply pw_below_drewN | apply below_drew1) | exact HB.out)) hb); have n1_ := Aside0.mk (hbox); have n2_ := Aside0.mk ((by rw [hg]; exact (below_size (by repeat (first | (with_reducible first | exact HB.out | apply below_alloc | apply pw_below_drewN | apply below_drew1) | exact HB.out))) : w.heap.size ≤ gb149)); have n3_ := Aside0.mk ((by rw [hg]; exact (below_size (by repeat (first | (with_reducible first | exact HB.out | apply below_alloc | apply pw_below_drewN | apply below_drew1) | exact HB.out))) : w.heap.size ≤ gb149)); clear HB; have HB := n0_; have BK149 := n1_; have GW149 := n2_; have GE149 := n3_; clear n0_ n1_ n2_ n3_; clear hb hbox hg; have hcz9_0 : w8.cell? ⟨gb149, 0, none⟩ = some (.int .u64 a0_0) := (blk_cell BK149.out 0).trans rfl; have hcz9_1 : w8.cell? ⟨gb149, 1, none⟩ = some (.int .u64 a0_1) := (blk_cell BK149.out 1).trans rfl; have hcz9_2 : w8.cell? ⟨gb149, 2, none⟩ = some (.int .i64 a0_2) := (blk_cell BK149.out 2).trans rfl; have hcz9_3 : w8.cell? ⟨gb149, 3, none⟩ = some (.int .i64 a0_3) := (blk_cell BK149.out 3).trans rfl; have hcz9_4 : w8.cell? ⟨gb149, 4, none⟩ = some (.int .u64 a0_4) := (blk_cell BK149.out 4).trans rfl; have hcz9_5 : w8.cell? ⟨gb149, 5, none⟩ = some (.slice A0_5 l0_5.length c0_5) := (blk_cell BK149.out 5).trans rfl; have hfz9_0 := blk_frozen BK149.out 0; have hfz9_1 := blk_frozen BK149.out 1; have hfz9_2 := blk_frozen BK149.out 2; have hfz9_3 := blk_frozen BK149.out 3; have hfz9_4 := blk_frozen BK149.out 4; have hfz9_5 := blk_frozen BK149.out 5) | ((with_reducible refine gate_callee (f := 59) rfl ?_); refine goesL_ (some 10) rfl rfl Try.func59 (by kernel_rfl) rfl #[.int .i64 a0_2, .int .i64 a0_3] rfl (by (try simp only [List.map_toArray, List.map_cons, List.map_nil]); first | done | rfl | (simp only [List.length_drop, List.length_take]; rfl)) ?_; (with_reducible refine (prolepsisref07_Size.calls a0_2 a0_3 true _ A2.out).mono ?_); rintro e w' ⟨rfl, ⟨nd, rfl⟩⟩; refine ⟨_, rfl, ?_⟩))
        go_ret
        exact ⟨by first | rfl | (simp [errW_none, errW_some] <;> rfl) | (simp [*, errW_none, errW_some] <;> rfl), by repeat (first | (with_reducible first | exact HB.out | apply below_alloc | apply pw_below_drewN | apply below_drew1 | refine below_set ?_ GE149.out) | exact HB.out)⟩
      · rw [if_neg c7] at H
        have c7b0 : decide (64 < (l0_5.length : Int)) = false := decide_eq_false c7
        have c7b1 : decide (64 < l0_5.length) = false := decide_eq_false (by omega)
        clear c7
        have H' := Aside0.mk H
        clear H
        go_enter Try.func41, Try.ntmps41
        go_wp2_with (first | ((with_reducible refine gate_dst (N := 1) rfl ?_); refine box_event ?hg (N := 1) ?hd (cs := #[.int .u64 a0_0, .int .u64 a0_1, .int .i64 a0_2, .int .i64 a0_3, .int .u64 a0_4, .slice A0_5 l0_5.length c0_5]) (t := 71) ?hr ?_; (case hd => rfl); (case hg => rfl); (case hr => first | (go_simp; done) | (go_simp; rfl)); intro gb149 hg w10 hbox hb; have n0_ := Aside0.mk (below_step (by repeat (first | (with_reducible first | exact HB.out | apply below_alloc | apply pw_below_drewN | apply below_drew1) | exact HB.out)) hb); have n1_ := Aside0.mk (hbox); have n2_ := Aside0.mk ((by rw [hg]; exact (below_size (by repeat (first | (with_reducible first | exact HB.out | apply below_alloc | apply pw_below_drewN | apply below_drew1) | exact HB.out))) : w.heap.size ≤ gb149)); have n3_ := Aside0.mk ((by rw [hg]; exact (below_size (by repeat (first | (with_reducible first | exact HB.out | apply below_alloc | apply pw_below_drewN | apply below_drew1) | exact HB.out))) : w.heap.size ≤ gb149)); clear HB; have HB := n0_; have BK149 := n1_; have GW149 := n2_; have GE149 := n3_; clear n0_ n1_ n2_ n3_; clear hb hbox hg; have hcz11_0 : w10.cell? ⟨gb149, 0, none⟩ = some (.int .u64 a0_0) := (blk_cell BK149.out 0).trans rfl; have hcz11_1 : w10.cell? ⟨gb149, 1, none⟩ = some (.int .u64 a0_1) := (blk_cell BK149.out 1).trans rfl; have hcz11_2 : w10.cell? ⟨gb149, 2, none⟩ = some (.int .i64 a0_2) := (blk_cell BK149.out 2).trans rfl; have hcz11_3 : w10.cell? ⟨gb149, 3, none⟩ = some (.int .i64 a0_3) := (blk_cell BK149.out 3).trans rfl; have hcz11_4 : w10.cell? ⟨gb149, 4, none⟩ = some (.int .u64 a0_4) := (blk_cell BK149.out 4).trans rfl; have hcz11_5 : w10.cell? ⟨gb149, 5, none⟩ = some (.slice A0_5 l0_5.length c0_5) := (blk_cell BK149.out 5).trans rfl; have hfz11_0 := blk_frozen BK149.out 0; have hfz11_1 := blk_frozen BK149.out 1; have hfz11_2 := blk_frozen BK149.out 2; have hfz11_3 := blk_frozen BK149.out 3; have hfz11_4 := blk_frozen BK149.out 4; have hfz11_5 := blk_frozen BK149.out 5) | ((with_reducible refine gate_callee (f := 59) rfl ?_); refine goesL_ (some 10) rfl rfl Try.func59 (by kernel_rfl) rfl #[.int .i64 a0_2, .int .i64 a0_3] rfl (by (try simp only [List.map_toArray, List.map_cons, List.map_nil]); first | done | rfl | (simp only [List.length_drop, List.length_take]; rfl)) ?_; (with_reducible refine (prolepsisref07_Size.calls a0_2 a0_3 true _ A2.out).mono ?_); rintro e w' ⟨rfl, ⟨nd, rfl⟩⟩; refine ⟨_, rfl, ?_⟩))
        go_loopg [3] k (fun kq v3 w' => ∃ (x3_1 : Int), v3 = .int .i64 x3_1 ∧ Aside0 (prolepsisref14_Check.l0 kq x3_1 a0_0 a0_1 a0_2 a0_3 a0_4 l0_5 = some r) ∧ Aside0 (kq ≤ k) ∧ Aside0 (w'.heap[gb149]? = some (.cells #[.int .u64 a0_0, .int .u64 a0_1, .int .i64 a0_2, .int .i64 a0_3, .int .u64 a0_4, (.slice A0_5 l0_5.length c0_5)] 71 (0, 0))) ∧ Aside0 (Below w.heap.size w w'))
        case atStart => exact ⟨(0), (by first | rfl | (simp; done) | (simp [*]; done)), H', ⟨Nat.le_refl _⟩, ⟨by (with_reducible repeat (first | refine blk_drewN ?_ _ | refine blk_drew ?_ | refine blk_alloc ?_ _)); exact BK149.out⟩, ⟨by repeat (first | (with_reducible first | exact HB.out | apply below_alloc | apply pw_below_drewN | apply below_drew1 | refine below_set ?_ GE149.out) | exact HB.out)⟩⟩
        case round =>
          clear H'
          try clear p2
          try clear c3
          try clear c4
          try clear c4b0
          try clear c4b1
          try clear c5
          try clear c7
          try clear c7b0
          try clear c7b1
          try clear hcz11_0
          try clear hcz11_1
          try clear hcz11_2
          try clear hcz11_3
          try clear hcz11_4
          try clear hcz11_5
          try clear hcz6_0
          try clear hcz6_1
          try clear hcz6_2
          try clear hcz6_3
          try clear hcz6_4
          try clear hcz6_5
          try clear hcz9_0
          try clear hcz9_1
          try clear hcz9_2
          try clear hcz9_3
          try clear hcz9_4
          try clear hcz9_5
          try clear hfz11_0
          try clear hfz11_1
          try clear hfz11_2
          try clear hfz11_3
          try clear hfz11_4
          try clear hfz11_5
          try clear hfz6_0
          try clear hfz6_1
          try clear hfz6_2
          try clear hfz6_3
          try clear hfz6_4
          try clear hfz6_5
          try clear hfz9_0
          try clear hfz9_1
          try clear hfz9_2
          try clear hfz9_3
          try clear hfz9_4
          try clear hfz9_5
          obtain ⟨x3_1, rfl, HA, HK1, BK149, HB⟩ := hrel
          cases gk with
          | zero => exact absurd HA.out (by simp [prolepsisref14_Check.l0])
          | succ k1 =>
            have H := HA.out
            clear HA
            simp only [prolepsisref14_Check.l0] at H
            by_cases c12 : x3_1 < (l0_5.length : Int)
            · rw [if_pos c12] at H
              have c12b0 : decide (x3_1 < (l0_5.length : Int)) = true := decide_eq_true c12
              clear c12
              by_cases c13 : 0 ≤ x3_1
              · rw [if_pos c13] at H
                have c13b0 : decide (0 ≤ x3_1) = true := decide_eq_true c13
                clear c13
                by_cases c14 : (rdOf ByteArray.empty l0_5 x3_1).toList = ([] : List UInt8)
                · rw [if_pos c14] at H
                  have c14b0 : ((rdOf ByteArray.empty l0_5 x3_1).toList == ([] : List UInt8)) = true := beq_iff_eq.mpr c14
                  have c14b1 : ((rdOf ByteArray.empty l0_5 x3_1).toList != ([] : List UInt8)) = false := bne_eq_false_iff_eq.mpr c14
                  clear c14
                  obtain rfl := Option.some.inj H
                  have hcz15_0 : wr.cell? ⟨gb149, 0, none⟩ = some (.int .u64 a0_0) := (blk_cell BK149.out 0).trans rfl
                  have hcz15_1 : wr.cell? ⟨gb149, 1, none⟩ = some (.int .u64 a0_1) := (blk_cell BK149.out 1).trans rfl
                  have hcz15_2 : wr.cell? ⟨gb149, 2, none⟩ = some (.int .i64 a0_2) := (blk_cell BK149.out 2).trans rfl
                  have hcz15_3 : wr.cell? ⟨gb149, 3, none⟩ = some (.int .i64 a0_3) := (blk_cell BK149.out 3).trans rfl
                  have hcz15_4 : wr.cell? ⟨gb149, 4, none⟩ = some (.int .u64 a0_4) := (blk_cell BK149.out 4).trans rfl
                  have hcz15_5 : wr.cell? ⟨gb149, 5, none⟩ = some (.slice A0_5 l0_5.length c0_5) := (blk_cell BK149.out 5).trans rfl
                  have hfz15_0 := blk_frozen BK149.out 0
                  have hfz15_1 := blk_frozen BK149.out 1
                  have hfz15_2 := blk_frozen BK149.out 2
                  have hfz15_3 := blk_frozen BK149.out 3
                  have hfz15_4 := blk_frozen BK149.out 4
                  have hfz15_5 := blk_frozen BK149.out 5
                  have p151 : 0 ≤ (x3_1 : Int) := of_decide_eq_true (by first | (with_reducible assumption) | assumption)
                  have q151 : x3_1 < (l0_5.length : Int) := of_decide_eq_true (by first | (with_reducible assumption) | assumption)
                  obtain ⟨ad151, e151, hx151_0⟩ := Kd.at_string HR0_5.out x3_1 p151 q151
                  cases e151
                  replace hx151_0 := (HB.out.cell (World.block_lt_of_cell? w _ hx151_0)).trans hx151_0
                  replace p151 := eq_true p151
                  replace q151 := eq_true q151
                  go_wp2
                  go_ret
                  exact ⟨by first | rfl | (simp [errW_none, errW_some] <;> rfl) | (simp [*, errW_none, errW_some] <;> rfl), by repeat (first | (with_reducible first | exact HB.out | apply below_alloc | apply pw_below_drewN | apply below_drew1 | refine below_set ?_ GE149.out) | exact HB.out)⟩
                · rw [if_neg c14] at H
                  have c14b0 : ((rdOf ByteArray.empty l0_5 x3_1).toList == ([] : List UInt8)) = false := beq_eq_false_iff_ne.mpr c14
                  have c14b1 : ((rdOf ByteArray.empty l0_5 x3_1).toList != ([] : List UInt8)) = true := bne_iff_ne.mpr c14
                  by_cases c16 : ((rdOf ByteArray.empty l0_5 x3_1).size : Int) > 8
                  · rw [if_pos c16] at H
                    have c16b0 : decide (8 < ((rdOf ByteArray.empty l0_5 x3_1).size : Int)) = true := decide_eq_true c16
                    have c16b1 : decide (8 < (rdOf ByteArray.empty l0_5 x3_1).size) = true := decide_eq_true (by omega)
                    clear c16
                    obtain rfl := Option.some.inj H
                    have hcz17_0 : wr.cell? ⟨gb149, 0, none⟩ = some (.int .u64 a0_0) := (blk_cell BK149.out 0).trans rfl
                    have hcz17_1 : wr.cell? ⟨gb149, 1, none⟩ = some (.int .u64 a0_1) := (blk_cell BK149.out 1).trans rfl
                    have hcz17_2 : wr.cell? ⟨gb149, 2, none⟩ = some (.int .i64 a0_2) := (blk_cell BK149.out 2).trans rfl
                    have hcz17_3 : wr.cell? ⟨gb149, 3, none⟩ = some (.int .i64 a0_3) := (blk_cell BK149.out 3).trans rfl
                    have hcz17_4 : wr.cell? ⟨gb149, 4, none⟩ = some (.int .u64 a0_4) := (blk_cell BK149.out 4).trans rfl
                    have hcz17_5 : wr.cell? ⟨gb149, 5, none⟩ = some (.slice A0_5 l0_5.length c0_5) := (blk_cell BK149.out 5).trans rfl
                    have hfz17_0 := blk_frozen BK149.out 0
                    have hfz17_1 := blk_frozen BK149.out 1
                    have hfz17_2 := blk_frozen BK149.out 2
                    have hfz17_3 := blk_frozen BK149.out 3
                    have hfz17_4 := blk_frozen BK149.out 4
                    have hfz17_5 := blk_frozen BK149.out 5
                    have p151 : 0 ≤ (x3_1 : Int) := of_decide_eq_true (by first | (with_reducible assumption) | assumption)
                    have q151 : x3_1 < (l0_5.length : Int) := of_decide_eq_true (by first | (with_reducible assumption) | assumption)
                    obtain ⟨ad151, e151, hx151_0⟩ := Kd.at_string HR0_5.out x3_1 p151 q151
                    cases e151
                    replace hx151_0 := (HB.out.cell (World.block_lt_of_cell? w _ hx151_0)).trans hx151_0
                    replace p151 := eq_true p151
                    replace q151 := eq_true q151
                    have p152 : 0 ≤ (x3_1 : Int) := of_decide_eq_true (by first | (with_reducible assumption) | assumption)
                    have q152 : x3_1 < (l0_5.length : Int) := of_decide_eq_true (by first | (with_reducible assumption) | assumption)
                    obtain ⟨ad152, e152, hx152_0⟩ := Kd.at_string HR0_5.out x3_1 p152 q152
                    obtain rfl : ad151 = ad152 := (by injection e152)
                    replace hx152_0 := (HB.out.cell (World.block_lt_of_cell? w _ hx152_0)).trans hx152_0
                    replace p152 := eq_true p152
                    replace q152 := eq_true q152
                    go_wp2
                    go_ret
                    exact ⟨by first | rfl | (simp [errW_none, errW_some] <;> rfl) | (simp [*, errW_none, errW_some] <;> rfl), by repeat (first | (with_reducible first | exact HB.out | apply below_alloc | apply pw_below_drewN | apply below_drew1 | refine below_set ?_ GE149.out) | exact HB.out)⟩
                  · rw [if_neg c16] at H
                    have c16b0 : decide (8 < ((rdOf ByteArray.empty l0_5 x3_1).size : Int)) = false := decide_eq_false c16
                    have c16b1 : decide (8 < (rdOf ByteArray.empty l0_5 x3_1).size) = false := decide_eq_false (by omega)
                    clear c16
                    have H' := Aside0.mk H
                    clear H
                    have hcz18_0 : wr.cell? ⟨gb149, 0, none⟩ = some (.int .u64 a0_0) := (blk_cell BK149.out 0).trans rfl
                    have hcz18_1 : wr.cell? ⟨gb149, 1, none⟩ = some (.int .u64 a0_1) := (blk_cell BK149.out 1).trans rfl
                    have hcz18_2 : wr.cell? ⟨gb149, 2, none⟩ = some (.int .i64 a0_2) := (blk_cell BK149.out 2).trans rfl
                    have hcz18_3 : wr.cell? ⟨gb149, 3, none⟩ = some (.int .i64 a0_3) := (blk_cell BK149.out 3).trans rfl
                    have hcz18_4 : wr.cell? ⟨gb149, 4, none⟩ = some (.int .u64 a0_4) := (blk_cell BK149.out 4).trans rfl
                    have hcz18_5 : wr.cell? ⟨gb149, 5, none⟩ = some (.slice A0_5 l0_5.length c0_5) := (blk_cell BK149.out 5).trans rfl
                    have hfz18_0 := blk_frozen BK149.out 0
                    have hfz18_1 := blk_frozen BK149.out 1
                    have hfz18_2 := blk_frozen BK149.out 2
                    have hfz18_3 := blk_frozen BK149.out 3
                    have hfz18_4 := blk_frozen BK149.out 4
                    have hfz18_5 := blk_frozen BK149.out 5
                    have p151 : 0 ≤ (x3_1 : Int) := of_decide_eq_true (by first | (with_reducible assumption) | assumption)
                    have q151 : x3_1 < (l0_5.length : Int) := of_decide_eq_true (by first | (with_reducible assumption) | assumption)
                    obtain ⟨ad151, e151, hx151_0⟩ := Kd.at_string HR0_5.out x3_1 p151 q151
                    cases e151
                    replace hx151_0 := (HB.out.cell (World.block_lt_of_cell? w _ hx151_0)).trans hx151_0
                    replace p151 := eq_true p151
                    replace q151 := eq_true q151
                    have p152 : 0 ≤ (x3_1 : Int) := of_decide_eq_true (by first | (with_reducible assumption) | assumption)
                    have q152 : x3_1 < (l0_5.length : Int) := of_decide_eq_true (by first | (with_reducible assumption) | assumption)
                    obtain ⟨ad152, e152, hx152_0⟩ := Kd.at_string HR0_5.out x3_1 p152 q152
                    obtain rfl : ad151 = ad152 := (by injection e152)
                    replace hx152_0 := (HB.out.cell (World.block_lt_of_cell? w _ hx152_0)).trans hx152_0
                    replace p152 := eq_true p152
                    replace q152 := eq_true q152
                    go_wp2
                    go_roundg k1
                    case measure => have := HK1.out; omega
                    case rel => exact ⟨(wrap64 (x3_1 + 1)), (by first | rfl | (simp; done) | (simp [*]; done)), H', ⟨by have := HK1.out; omega⟩, ⟨by (with_reducible repeat (first | refine blk_drewN ?_ _ | refine blk_drew ?_ | refine blk_alloc ?_ _)); exact BK149.out⟩, ⟨by repeat (first | (with_reducible first | exact HB.out | apply below_alloc | apply pw_below_drewN | apply below_drew1 | refine below_set ?_ GE149.out) | exact HB.out)⟩⟩
              · rw [if_neg c13] at H
                exact absurd H (by simp)
            · rw [if_neg c12] at H
              have c12b0 : decide (x3_1 < (l0_5.length : Int)) = false := decide_eq_false c12
              clear c12
              have H' := Aside0.mk H
              clear H
              have hcz19_0 : wr.cell? ⟨gb149, 0, none⟩ = some (.int .u64 a0_0) := (blk_cell BK149.out 0).trans rfl
              have hcz19_1 : wr.cell? ⟨gb149, 1, none⟩ = some (.int .u64 a0_1) := (blk_cell BK149.out 1).trans rfl
              have hcz19_2 : wr.cell? ⟨gb149, 2, none⟩ = some (.int .i64 a0_2) := (blk_cell BK149.out 2).trans rfl
              have hcz19_3 : wr.cell? ⟨gb149, 3, none⟩ = some (.int .i64 a0_3) := (blk_cell BK149.out 3).trans rfl
              have hcz19_4 : wr.cell? ⟨gb149, 4, none⟩ = some (.int .u64 a0_4) := (blk_cell BK149.out 4).trans rfl
              have hcz19_5 : wr.cell? ⟨gb149, 5, none⟩ = some (.slice A0_5 l0_5.length c0_5) := (blk_cell BK149.out 5).trans rfl
              have hfz19_0 := blk_frozen BK149.out 0
              have hfz19_1 := blk_frozen BK149.out 1
              have hfz19_2 := blk_frozen BK149.out 2
              have hfz19_3 := blk_frozen BK149.out 3
              have hfz19_4 := blk_frozen BK149.out 4
              have hfz19_5 := blk_frozen BK149.out 5
              go_wp2
              go_loopg [4, 5] k1 (fun kq v4 v5 w' => ∃ (x4_2 : Int) (x5_2 : Int), v4 = .int .u64 x4_2 ∧ v5 = .int .i64 x5_2 ∧ Aside0 (prolepsisref14_Check.l1 kq x4_2 x5_2 a0_0 a0_1 a0_2 a0_3 a0_4 l0_5 = some r) ∧ Aside0 (kq ≤ k1) ∧ Aside0 (w'.heap[gb149]? = some (.cells #[.int .u64 a0_0, .int .u64 a0_1, .int .i64 a0_2, .int .i64 a0_3, .int .u64 a0_4, (.slice A0_5 l0_5.length c0_5)] 71 (0, 0))) ∧ Aside0 (Below w.heap.size w w'))
              case atStart => exact ⟨(a0_4), (1), (by first | rfl | (simp; done) | (simp [*]; done)), (by first | rfl | (simp; done) | (simp [*]; done)), H', ⟨Nat.le_refl _⟩, ⟨by (with_reducible repeat (first | refine blk_drewN ?_ _ | refine blk_drew ?_ | refine blk_alloc ?_ _)); exact BK149.out⟩, ⟨by repeat (first | (with_reducible first | exact HB.out | apply below_alloc | apply pw_below_drewN | apply below_drew1 | refine below_set ?_ GE149.out) | exact HB.out)⟩⟩
              case round =>
                clear H'
                try clear c1
                try clear p1
                try clear q1
                try clear hx1
                try clear p2
                try clear c3
                try clear c4
                try clear c4b0
                try clear c4b1
                try clear c5
                try clear p6
                try clear c7
                try clear c7b0
                try clear c7b1
                try clear c12
                try clear c12b0
                try clear c13
                try clear c13b0
                try clear c14
                try clear c14b0
                try clear c14b1
                try clear p15
                try clear q15
                try clear hx15
                try clear c16
                try clear c16b0
                try clear c16b1
                try clear hcz11_0
                try clear hcz11_1
                try clear hcz11_2
                try clear hcz11_3
                try clear hcz11_4
                try clear hcz11_5
                try clear hcz15_0
                try clear hcz15_1
                try clear hcz15_2
                try clear hcz15_3
                try clear hcz15_4
                try clear hcz15_5
                try clear hcz17_0
                try clear hcz17_1
                try clear hcz17_2
                try clear hcz17_3
                try clear hcz17_4
                try clear hcz17_5
                try clear hcz18_0
                try clear hcz18_1
                try clear hcz18_2
                try clear hcz18_3
                try clear hcz18_4
                try clear hcz18_5
                try clear hcz19_0
                try clear hcz19_1
                try clear hcz19_2
                try clear hcz19_3
                try clear hcz19_4
                try clear hcz19_5
                try clear hcz6_0
                try clear hcz6_1
                try clear hcz6_2
                try clear hcz6_3
                try clear hcz6_4
                try clear hcz6_5
                try clear hcz9_0
                try clear hcz9_1
                try clear hcz9_2
                try clear hcz9_3
                try clear hcz9_4
                try clear hcz9_5
                try clear hfz11_0
                try clear hfz11_1
                try clear hfz11_2
                try clear hfz11_3
                try clear hfz11_4
                try clear hfz11_5
                try clear hfz15_0
                try clear hfz15_1
                try clear hfz15_2
                try clear hfz15_3
                try clear hfz15_4
                try clear hfz15_5
                try clear hfz17_0
                try clear hfz17_1
                try clear hfz17_2
                try clear hfz17_3
                try clear hfz17_4
                try clear hfz17_5
                try clear hfz18_0
                try clear hfz18_1
                try clear hfz18_2
                try clear hfz18_3
                try clear hfz18_4
                try clear hfz18_5
                try clear hfz19_0
                try clear hfz19_1
                try clear hfz19_2
                try clear hfz19_3
                try clear hfz19_4
                try clear hfz19_5
                try clear hfz6_0
                try clear hfz6_1
                try clear hfz6_2
                try clear hfz6_3
                try clear hfz6_4
                try clear hfz6_5
                try clear hfz9_0
                try clear hfz9_1
                try clear hfz9_2
                try clear hfz9_3
                try clear hfz9_4
                try clear hfz9_5
                try clear hx151_0
                try clear hx152_0
                try clear p151
                try clear p152
                try clear p2
                try clear q151
                try clear q152
                obtain ⟨x4_2, x5_2, rfl, rfl, HA, HK2, BK149, HB⟩ := hrel
                cases gk with
                | zero => exact absurd HA.out (by simp [prolepsisref14_Check.l1])
                | succ k2 =>
                  have H := HA.out
                  clear HA
                  simp only [prolepsisref14_Check.l1] at H
                  by_cases c20 : x5_2 < (l0_5.length : Int)
                  · rw [if_pos c20] at H
                    have c20b0 : decide (x5_2 < (l0_5.length : Int)) = true := decide_eq_true c20
                    clear c20
                    by_cases c21 : (IntKind.u64.wrap (x4_2 + 1)) = 0
                    · rw [if_pos c21] at H
                      have c21b0 : ((IntKind.u64.wrap (x4_2 + 1)) == 0) = true := beq_iff_eq.mpr c21
                      have c21b1 : ((IntKind.u64.wrap (x4_2 + 1)) != 0) = false := bne_eq_false_iff_eq.mpr c21
                      clear c21
                      obtain rfl := Option.some.inj H
                      have hcz22_0 : wr.cell? ⟨gb149, 0, none⟩ = some (.int .u64 a0_0) := (blk_cell BK149.out 0).trans rfl
                      have hcz22_1 : wr.cell? ⟨gb149, 1, none⟩ = some (.int .u64 a0_1) := (blk_cell BK149.out 1).trans rfl
                      have hcz22_2 : wr.cell? ⟨gb149, 2, none⟩ = some (.int .i64 a0_2) := (blk_cell BK149.out 2).trans rfl
                      have hcz22_3 : wr.cell? ⟨gb149, 3, none⟩ = some (.int .i64 a0_3) := (blk_cell BK149.out 3).trans rfl
                      have hcz22_4 : wr.cell? ⟨gb149, 4, none⟩ = some (.int .u64 a0_4) := (blk_cell BK149.out 4).trans rfl
                      have hcz22_5 : wr.cell? ⟨gb149, 5, none⟩ = some (.slice A0_5 l0_5.length c0_5) := (blk_cell BK149.out 5).trans rfl
                      have hfz22_0 := blk_frozen BK149.out 0
                      have hfz22_1 := blk_frozen BK149.out 1
                      have hfz22_2 := blk_frozen BK149.out 2
                      have hfz22_3 := blk_frozen BK149.out 3
                      have hfz22_4 := blk_frozen BK149.out 4
                      have hfz22_5 := blk_frozen BK149.out 5
                      go_wp2
                      go_ret
                      exact ⟨by first | rfl | (simp [errW_none, errW_some] <;> rfl) | (simp [*, errW_none, errW_some] <;> rfl), by repeat (first | (with_reducible first | exact HB.out | apply below_alloc | apply pw_below_drewN | apply below_drew1 | refine below_set ?_ GE149.out) | exact HB.out)⟩
                    · rw [if_neg c21] at H
                      have c21b0 : ((IntKind.u64.wrap (x4_2 + 1)) == 0) = false := beq_eq_false_iff_ne.mpr c21
                      have c21b1 : ((IntKind.u64.wrap (x4_2 + 1)) != 0) = true := bne_iff_ne.mpr c21
                      have H' := Aside0.mk H
                      clear H
                      have hcz23_0 : wr.cell? ⟨gb149, 0, none⟩ = some (.int .u64 a0_0) := (blk_cell BK149.out 0).trans rfl
                      have hcz23_1 : wr.cell? ⟨gb149, 1, none⟩ = some (.int .u64 a0_1) := (blk_cell BK149.out 1).trans rfl
                      have hcz23_2 : wr.cell? ⟨gb149, 2, none⟩ = some (.int .i64 a0_2) := (blk_cell BK149.out 2).trans rfl
                      have hcz23_3 : wr.cell? ⟨gb149, 3, none⟩ = some (.int .i64 a0_3) := (blk_cell BK149.out 3).trans rfl
                      have hcz23_4 : wr.cell? ⟨gb149, 4, none⟩ = some (.int .u64 a0_4) := (blk_cell BK149.out 4).trans rfl
                      have hcz23_5 : wr.cell? ⟨gb149, 5, none⟩ = some (.slice A0_5 l0_5.length c0_5) := (blk_cell BK149.out 5).trans rfl
                      have hfz23_0 := blk_frozen BK149.out 0
                      have hfz23_1 := blk_frozen BK149.out 1
                      have hfz23_2 := blk_frozen BK149.out 2
                      have hfz23_3 := blk_frozen BK149.out 3
                      have hfz23_4 := blk_frozen BK149.out 4
                      have hfz23_5 := blk_frozen BK149.out 5
                      go_wp2
                      go_roundg k2
                      case measure => have := HK1.out; have := HK2.out; omega
                      case rel => exact ⟨(IntKind.u64.wrap (x4_2 + 1)), (wrap64 (x5_2 + 1)), (by first | rfl | (simp; done) | (simp [*]; done)), (by first | rfl | (simp; done) | (simp [*]; done)), H', ⟨by have := HK1.out; have := HK2.out; omega⟩, ⟨by (with_reducible repeat (first | refine blk_drewN ?_ _ | refine blk_drew ?_ | refine blk_alloc ?_ _)); exact BK149.out⟩, ⟨by repeat (first | (with_reducible first | exact HB.out | apply below_alloc | apply pw_below_drewN | apply below_drew1 | refine below_set ?_ GE149.out) | exact HB.out)⟩⟩
                  · rw [if_neg c20] at H
                    have c20b0 : decide (x5_2 < (l0_5.length : Int)) = false := decide_eq_false c20
                    clear c20
                    obtain rfl := Option.some.inj H
                    have hcz24_0 : wr.cell? ⟨gb149, 0, none⟩ = some (.int .u64 a0_0) := (blk_cell BK149.out 0).trans rfl
                    have hcz24_1 : wr.cell? ⟨gb149, 1, none⟩ = some (.int .u64 a0_1) := (blk_cell BK149.out 1).trans rfl
                    have hcz24_2 : wr.cell? ⟨gb149, 2, none⟩ = some (.int .i64 a0_2) := (blk_cell BK149.out 2).trans rfl
                    have hcz24_3 : wr.cell? ⟨gb149, 3, none⟩ = some (.int .i64 a0_3) := (blk_cell BK149.out 3).trans rfl
                    have hcz24_4 : wr.cell? ⟨gb149, 4, none⟩ = some (.int .u64 a0_4) := (blk_cell BK149.out 4).trans rfl
                    have hcz24_5 : wr.cell? ⟨gb149, 5, none⟩ = some (.slice A0_5 l0_5.length c0_5) := (blk_cell BK149.out 5).trans rfl
                    have hfz24_0 := blk_frozen BK149.out 0
                    have hfz24_1 := blk_frozen BK149.out 1
                    have hfz24_2 := blk_frozen BK149.out 2
                    have hfz24_3 := blk_frozen BK149.out 3
                    have hfz24_4 := blk_frozen BK149.out 4
                    have hfz24_5 := blk_frozen BK149.out 5
                    go_wp2
                    go_ret
                    exact ⟨by first | rfl | (simp [errW_none, errW_some] <;> rfl) | (simp [*, errW_none, errW_some] <;> rfl), by repeat (first | (with_reducible first | exact HB.out | apply below_alloc | apply pw_below_drewN | apply below_drew1 | refine below_set ?_ GE149.out) | exact HB.out)⟩
  · replace c3 := Bool.eq_false_iff.mpr c3
    subst c3
    have H1 : (some 11) = some r := by rw [if_neg (show ¬ (false = true) by decide)] at H; exact H
    clear H
    have H := H1
    clear H1
    obtain rfl := Option.some.inj H
    go_enter Try.func41, Try.ntmps41
    go_wp2_with (first | ((with_reducible refine gate_dst (N := 1) rfl ?_); refine box_event ?hg (N := 1) ?hd (cs := #[.int .u64 a0_0, .int .u64 a0_1, .int .i64 a0_2, .int .i64 a0_3, .int .u64 a0_4, .slice A0_5 l0_5.length c0_5]) (t := 71) ?hr ?_; (case hd => rfl); (case hg => rfl); (case hr => first | (go_simp; done) | (go_simp; rfl)); intro gb149 hg w25 hbox hb; have n0_ := Aside0.mk (below_step (by repeat (first | (with_reducible first | exact HB.out | apply below_alloc | apply pw_below_drewN | apply below_drew1) | exact HB.out)) hb); have n1_ := Aside0.mk (hbox); have n2_ := Aside0.mk ((by rw [hg]; exact (below_size (by repeat (first | (with_reducible first | exact HB.out | apply below_alloc | apply pw_below_drewN | apply below_drew1) | exact HB.out))) : w.heap.size ≤ gb149)); have n3_ := Aside0.mk ((by rw [hg]; exact (below_size (by repeat (first | (with_reducible first | exact HB.out | apply below_alloc | apply pw_below_drewN | apply below_drew1) | exact HB.out))) : w.heap.size ≤ gb149)); clear HB; have HB := n0_; have BK149 := n1_; have GW149 := n2_; have GE149 := n3_; clear n0_ n1_ n2_ n3_; clear hb hbox hg; have hcz26_0 : w25.cell? ⟨gb149, 0, none⟩ = some (.int .u64 a0_0) := (blk_cell BK149.out 0).trans rfl; have hcz26_1 : w25.cell? ⟨gb149, 1, none⟩ = some (.int .u64 a0_1) := (blk_cell BK149.out 1).trans rfl; have hcz26_2 : w25.cell? ⟨gb149, 2, none⟩ = some (.int .i64 a0_2) := (blk_cell BK149.out 2).trans rfl; have hcz26_3 : w25.cell? ⟨gb149, 3, none⟩ = some (.int .i64 a0_3) := (blk_cell BK149.out 3).trans rfl; have hcz26_4 : w25.cell? ⟨gb149, 4, none⟩ = some (.int .u64 a0_4) := (blk_cell BK149.out 4).trans rfl; have hcz26_5 : w25.cell? ⟨gb149, 5, none⟩ = some (.slice A0_5 l0_5.length c0_5) := (blk_cell BK149.out 5).trans rfl; have hfz26_0 := blk_frozen BK149.out 0; have hfz26_1 := blk_frozen BK149.out 1; have hfz26_2 := blk_frozen BK149.out 2; have hfz26_3 := blk_frozen BK149.out 3; have hfz26_4 := blk_frozen BK149.out 4; have hfz26_5 := blk_frozen BK149.out 5) | ((with_reducible refine gate_callee (f := 59) rfl ?_); refine goesL_ (some 10) rfl rfl Try.func59 (by kernel_rfl) rfl #[.int .i64 a0_2, .int .i64 a0_3] rfl (by (try simp only [List.map_toArray, List.map_cons, List.map_nil]); first | done | rfl | (simp only [List.length_drop, List.length_take]; rfl)) ?_; (with_reducible refine (prolepsisref07_Size.calls a0_2 a0_3 false _ A2.out).mono ?_); rintro e w' ⟨rfl, ⟨nd, rfl⟩⟩; refine ⟨_, rfl, ?_⟩))
    go_ret
    exact ⟨by first | rfl | (simp [errW_none, errW_some] <;> rfl) | (simp [*, errW_none, errW_some] <;> rfl), by repeat (first | (with_reducible first | exact HB.out | apply below_alloc | apply pw_below_drewN | apply below_drew1 | refine below_set ?_ GE149.out) | exact HB.out)⟩

end Go.Proofs.Ytpephndecdkfhaa.PKeygramParses
