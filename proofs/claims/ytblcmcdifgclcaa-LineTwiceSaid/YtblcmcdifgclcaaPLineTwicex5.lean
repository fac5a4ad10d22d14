/- What the law LineTwice reaches: each function with its contract. -/
import Derived.Test.YtblcmcdifgclcaaPLineTwicex0
import Derived.Test.YtblcmcdifgclcaaPLineTwicex2
import Derived.Test.YtblcmcdifgclcaaPLineTwicex3
namespace Go.Proofs.Ytblcmcdifgclcaa.PLineTwice
open Go.RowKit Go.Proofs.YtblcmcdifgclcaaW.PrintWords Go.Proofs.YtblcmcdifgclcaaW.PrintLast Go.Proofs.YtblcmcdifgclcaaW.PrintMore
attribute [local go_sem] max2_int min2_int max_two min_two max_three min_three max_four min_four   -- for this text's walks alone
set_option linter.unusedVariables false
set_option linter.unusedSimpArgs false

attribute [local go_sem high] eqA26
set_option maxHeartbeats 4000000 in
set_option maxRecDepth 100000 in
theorem cloneC_any (A : Option Addr) (c : Nat) (l : List S26) (w : World) (hC : Kd.C k26 w A l.length l) (hlen : l.length < 8796093022208) :
    Calls Try.prog 95 #[.slice A l.length c] w fun r w' => ∃ v, r = .returned v ∧ Kd.R k26 26 w' w.heap.size (fun _ => True) v l ∧ Below w.heap.size w w' := by
  have HB := Aside0.mk (Below.refl w.heap.size w)
  rcases A with _ | ad
  · have hl0 : l = [] := by
      rcases Nat.eq_zero_or_pos l.length with h | h
      · exact List.eq_nil_of_length_eq_zero h
      · obtain ⟨ad, h', _⟩ := hC.2.2 h; cases h'
    have hq := Lib.run_eql_slice_nil (P := Try.prog) w 58 26 none l.length c 0 0 Try.underlying58
    have HL := Aside0.mk hl0
    clear hC hl0
    simp at hq
    go_enter Try.func95, Try.ntmps95
    go_wp2
    go_ret
    exact ⟨_, rfl, by rw [HL.out]; exact Kd.R_nil _ _ _ _ _, Below.refl _ _⟩
  · have hq := Lib.run_eql_slice_nil (P := Try.prog) w 58 26 (some ad) l.length c 0 0 Try.underlying58
    simp at hq
    have HC := Aside0.mk hC
    clear hC
    have HO := Aside0.mk (R_lit0 k26 (W := w) w.heap.size 26 (xs := []) (inner := []) (ok := fun _ => True) (okp := fun _ => False) (Reps.none _ _) (fun _ h => h.elim) trivial (Nat.le_refl _) (by simp) (fun _ h => h.elim))
    go_enter Try.func95, Try.ntmps95
    go_wp2_with (first | (at_builtin; refine Kd.R_append_rows k26 (w0 := w) w.heap.size rfl (.tmp 5) (.tmp 6) 58 26 (.agg #[(.int .i32 0), (.int .i32 0), (.int .i32 0), (.int .u8 0), (.int .u8 0), (.int .u8 0), (.int .u8 0)]) 16 rfl Try.underlying58 infoC rfl (by decide) (by omega) _ ([] : List S26) l _ _ _ (fun _ => True) (fun _ => False) rfl rfl ?aO ?aR (fun _ _ h => h) (fun _ h => h.elim) (fun _ _ => trivial) ?aB ?aS ?aL ?_; (case aO => exact HO.out); (case aR => exact Kd.C_alloc HC.out _); (case aB => exact (by repeat (first | (with_reducible first | exact HB.out | apply below_alloc | apply pw_below_drewN | apply below_drew1) | exact HB.out))); (case aS => simp); (case aL => simp; omega); intro vq wq ho hb hg hat; have HX := Aside0.mk (And.intro ho hb); clear ho hb hg hat))
    go_ret
    exact ⟨_, rfl, HX.out.1, HX.out.2⟩
/-! ### cell_Cell_95: function 95: of own contracts -/
def cell_Cell_95.f (l0 : List (S26)) : Option ((List (S26))) := if l0.length < 8796093022208 then some l0 else none
theorem cell_Cell_95.calls (A0 : Option Addr) (c0 : Nat) (l0 : List (S26)) (r : List (S26)) (w : World) (hr0 : Kd.C k26 w A0 l0.length l0) (hc0 : l0.length ≤ c0) (h : cell_Cell_95.f l0 = some r) :
    Calls Try.prog 95 #[.slice A0 l0.length c0] w fun e w' => ∃ v0_ : Value, e = .returned (v0_) ∧ Kd.R k26 26 w' w.heap.size (fun _ => True) v0_ r ∧ Below w.heap.size w w' := by
  unfold cell_Cell_95.f at h
  by_cases hb : l0.length < 8796093022208
  · rw [if_pos hb] at h
    obtain rfl := Option.some.inj h
    exact cloneC_any A0 c0 l0 w hr0 hb
  · rw [if_neg hb] at h; cases h

/-! ### cell_Blank: function 21 -/
def cell_Blank.f (a0_0 : Int) (a0_1 : Int) (a0_2 : Int) : Option (Int × Int × Int × Int × Int × Int × Int) := some (32, 0, 0, 1, a0_0, a0_1, a0_2)
set_option maxHeartbeats 8000000 in
set_option maxRecDepth 100000 in
theorem cell_Blank.calls (a0_0 : Int) (a0_1 : Int) (a0_2 : Int) (r1 : Int) (r2 : Int) (r3 : Int) (r4 : Int) (r5 : Int) (r6 : Int) (r7 : Int) (w : World) (h : cell_Blank.f a0_0 a0_1 a0_2 = some (r1, r2, r3, r4, r5, r6, r7)) :
    Calls Try.prog 21 #[.agg #[.int .u8 a0_0, .int .u8 a0_1, .int .u8 a0_2]] w fun e w' => e = .returned (.agg #[.int .i32 r1, .int .i32 r2, .int .i32 r3, .int .u8 r4, .int .u8 r5, .int .u8 r6, .int .u8 r7]) ∧ Below w.heap.size w w' := by
  have hu24 := Try.underlying24
  have hu26 := Try.underlying26
  have HB := Aside0.mk (Below.refl w.heap.size w)
  have H : (some (32, 0, 0, 1, a0_0, a0_1, a0_2)) = some (r1, r2, r3, r4, r5, r6, r7) := h
  clear h
  simp only [Option.some.injEq, Prod.mk.injEq] at H
  obtain ⟨rfl, rfl, rfl, rfl, rfl, rfl, rfl⟩ := H
  go_enter Try.func21, Try.ntmps21
  go_wp2_with (first | ((with_reducible refine gate_dst (N := 1) rfl ?_); refine box_event ?hg (N := 1) ?hd (cs := #[.int .u8 a0_0, .int .u8 a0_1, .int .u8 a0_2]) (t := 24) ?hr ?_; (case hd => rfl); (case hg => rfl); (case hr => first | (go_simp; done) | (go_simp; rfl)); intro gb131 hg w2 hbox hb; have n0_ := Aside0.mk (below_step (by repeat (first | (with_reducible first | exact HB.out | apply below_alloc | apply pw_below_drewN | apply below_drew1) | exact HB.out)) hb); have n1_ := Aside0.mk (hbox); have n2_ := Aside0.mk ((by rw [hg]; exact (below_size (by repeat (first | (with_reducible first | exact HB.out | apply below_alloc | apply pw_below_drewN | apply below_drew1) | exact HB.out))) : w.heap.size ≤ gb131)); have n3_ := Aside0.mk ((by rw [hg]; exact (below_size (by repeat (first | (with_reducible first | exact HB.out | apply below_alloc | apply pw_below_drewN | apply below_drew1) | exact HB.out))) : w.heap.size ≤ gb131)); clear HB; have HB := n0_; have BK131 := n1_; have GW131 := n2_; have GE131 := n3_; clear n0_ n1_ n2_ n3_; clear hb hbox hg) | ((with_reducible refine gate_dst (N := 2) rfl ?_); refine box_event ?hg (N := 2) ?hd (cs := #[.int .i32 0, .int .i32 0, .int .i32 0, .int .u8 0, .int .u8 0, .int .u8 0, .int .u8 0]) (t := 26) ?hr ?_; (case hd => rfl); (case hg => rfl); (case hr => first | (go_simp; done) | (go_simp; rfl)); intro gb132 hg w3 hbox hb; have n0_ := Aside0.mk (blk_below (g := gb131) (o := .cells #[.int .u8 a0_0, .int .u8 a0_1, .int .u8 a0_2] 24 (0, 0)) (by (with_reducible repeat (first | refine blk_drewN ?_ _ | refine blk_drew ?_ | refine blk_alloc ?_ _)); exact BK131.out) hb); have n1_ := Aside0.mk (below_step (by repeat (first | (with_reducible first | exact HB.out | apply below_alloc | apply pw_below_drewN | apply below_drew1 | refine below_set ?_ GE131.out) | exact HB.out)) hb); have n2_ := Aside0.mk (hbox); have n3_ := Aside0.mk ((by rw [hg]; exact (below_size (by repeat (first | (with_reducible first | exact HB.out | apply below_alloc | apply pw_below_drewN | apply below_drew1 | refine below_set ?_ GE131.out) | exact HB.out))) : w.heap.size ≤ gb132)); have n4_ := Aside0.mk ((by rw [hg]; exact (below_size (by repeat (first | (with_reducible first | exact HB.out | apply below_alloc | apply pw_below_drewN | apply below_drew1 | refine below_set ?_ GE131.out) | exact HB.out))) : w.heap.size ≤ gb132)); have n5_ := Aside0.mk ((by rw [hg]; exact Nat.ne_of_lt (blk_lt (g := gb131) (o := .cells #[.int .u8 a0_0, .int .u8 a0_1, .int .u8 a0_2] 24 (0, 0)) (by (with_reducible repeat (first | refine blk_drewN ?_ _ | refine blk_drew ?_ | refine blk_alloc ?_ _)); exact BK131.out)) : gb131 ≠ gb132)); have n6_ := Aside0.mk ((by rw [hg]; exact Nat.ne_of_gt (blk_lt (g := gb131) (o := .cells #[.int .u8 a0_0, .int .u8 a0_1, .int .u8 a0_2] 24 (0, 0)) (by (with_reducible repeat (first | refine blk_drewN ?_ _ | refine blk_drew ?_ | refine blk_alloc ?_ _)); exact BK131.out)) : gb132 ≠ gb131)); clear BK131; clear HB; have BK131 := n0_; have HB := n1_; have BK132 := n2_; have GW132 := n3_; have GE132 := n4_; have NB131_132 := n5_; have NB132_131 := n6_; clear n0_ n1_ n2_ n3_ n4_ n5_ n6_; clear hb hbox hg; have hnb4 := NB131_132.out; have hnc4 := NB132_131.out; have hcz5_0 : w3.cell? ⟨gb131, 0, none⟩ = some (.int .u8 a0_0) := (blk_cell BK131.out 0).trans rfl; have hcz5_1 : w3.cell? ⟨gb131, 1, none⟩ = some (.int .u8 a0_1) := (blk_cell BK131.out 1).trans rfl; have hcz5_2 : w3.cell? ⟨gb131, 2, none⟩ = some (.int .u8 a0_2) := (blk_cell BK131.out 2).trans rfl; have hfz5_0 := blk_frozen BK131.out 0; have hfz5_1 := blk_frozen BK131.out 1; have hfz5_2 := blk_frozen BK131.out 2; have hcz6_0 : w3.cell? ⟨gb132, 0, none⟩ = some (.int .i32 0) := (blk_cell BK132.out 0).trans rfl; have hcz6_1 : w3.cell? ⟨gb132, 1, none⟩ = some (.int .i32 0) := (blk_cell BK132.out 1).trans rfl; have hcz6_2 : w3.cell? ⟨gb132, 2, none⟩ = some (.int .i32 0) := (blk_cell BK132.out 2).trans rfl; have hcz6_3 : w3.cell? ⟨gb132, 3, none⟩ = some (.int .u8 0) := (blk_cell BK132.out 3).trans rfl; have hcz6_4 : w3.cell? ⟨gb132, 4, none⟩ = some (.int .u8 0) := (blk_cell BK132.out 4).trans rfl; have hcz6_5 : w3.cell? ⟨gb132, 5, none⟩ = some (.int .u8 0) := (blk_cell BK132.out 5).trans rfl; have hcz6_6 : w3.cell? ⟨gb132, 6, none⟩ = some (.int .u8 0) := (blk_cell BK132.out 6).trans rfl; have hfz6_0 := blk_frozen BK132.out 0; have hfz6_1 := blk_frozen BK132.out 1; have hfz6_2 := blk_frozen BK132.out 2; have hfz6_3 := blk_frozen BK132.out 3; have hfz6_4 := blk_frozen BK132.out 4; have hfz6_5 := blk_frozen BK132.out 5; have hfz6_6 := blk_frozen BK132.out 6))
  refine bodyPost_ret (results_cell_row rfl _ _ gb132 26 #[.int .i32 32, .int .i32 0, .int .i32 0, .int .u8 1, .int .u8 a0_0, .int .u8 a0_1, .int .u8 a0_2] (0, 0) _ rfl (by (with_reducible repeat (first | refine blk_drewN ?_ _ | refine blk_drew ?_ | refine blk_alloc ?_ _)); refine blk_put (cs := #[.int .i32 32, .int .i32 0, .int .i32 0, .int .u8 1, .int .u8 a0_0, .int .u8 a0_1, .int .u8 0]) ?_ 6 _ rfl; (with_reducible repeat (first | refine blk_drewN ?_ _ | refine blk_drew ?_ | refine blk_alloc ?_ _)); refine blk_put (cs := #[.int .i32 32, .int .i32 0, .int .i32 0, .int .u8 1, .int .u8 a0_0, .int .u8 0, .int .u8 0]) ?_ 5 _ rfl; (with_reducible repeat (first | refine blk_drewN ?_ _ | refine blk_drew ?_ | refine blk_alloc ?_ _)); refine blk_put (cs := #[.int .i32 32, .int .i32 0, .int .i32 0, .int .u8 1, .int .u8 0, .int .u8 0, .int .u8 0]) ?_ 4 _ rfl; (with_reducible repeat (first | refine blk_drewN ?_ _ | refine blk_drew ?_ | refine blk_alloc ?_ _)); refine blk_put (cs := #[.int .i32 32, .int .i32 0, .int .i32 0, .int .u8 0, .int .u8 0, .int .u8 0, .int .u8 0]) ?_ 3 _ rfl; (with_reducible repeat (first | refine blk_drewN ?_ _ | refine blk_drew ?_ | refine blk_alloc ?_ _)); refine blk_put (cs := #[.int .i32 32, .int .i32 0, .int .i32 0, .int .u8 0, .int .u8 0, .int .u8 0, .int .u8 0]) ?_ 2 _ rfl; (with_reducible repeat (first | refine blk_drewN ?_ _ | refine blk_drew ?_ | refine blk_alloc ?_ _)); refine blk_put (cs := #[.int .i32 32, .int .i32 0, .int .i32 0, .int .u8 0, .int .u8 0, .int .u8 0, .int .u8 0]) ?_ 1 _ rfl; (with_reducible repeat (first | refine blk_drewN ?_ _ | refine blk_drew ?_ | refine blk_alloc ?_ _)); refine blk_put (cs := #[.int .i32 0, .int .i32 0, .int .i32 0, .int .u8 0, .int .u8 0, .int .u8 0, .int .u8 0]) ?_ 0 _ rfl; (with_reducible repeat (first | refine blk_drewN ?_ _ | refine blk_drew ?_ | refine blk_alloc ?_ _)); exact BK132.out) Try.underlying26 rfl (by kernel_rfl)) rfl ?_
  exact ⟨by first | rfl | (simp [errW_none, errW_some] <;> rfl) | (simp [*, errW_none, errW_some] <;> rfl), by repeat (first | (with_reducible first | exact HB.out | apply below_alloc | apply pw_below_drewN | apply below_drew1 | refine below_set ?_ GE131.out | refine below_set ?_ GE132.out) | exact HB.out)⟩

def blankS (x : S26) : S26 := ⟨32, ⟨0, 0⟩, 1, x.f3⟩
/-- A line without halves that are alone. -/
def mendC (l : List S26) : List S26 := l.mapIdx (fun i x => if aloneC l (i : Int) = true then blankS x else x)
def mixC (l : List S26) (i : Nat) : List S26 := (mendC l).take i ++ l.drop i
theorem mend_len (l : List S26) : (mendC l).length = l.length := by simp [mendC]
theorem mix_len (l : List S26) (i : Nat) (h : i ≤ l.length) : (mixC l i).length = l.length := by simp [mixC, mend_len]; omega
theorem mix_zero (l : List S26) : mixC l 0 = l := by simp [mixC]
theorem mix_end (l : List S26) : mixC l l.length = mendC l := by
  rw [mixC, List.drop_eq_nil_of_le (Nat.le_refl _), List.append_nil, List.take_of_length_le (by rw [mend_len]; exact Nat.le_refl _)]
theorem mix_get (l : List S26) (i j : Nat) (h : i ≤ l.length) : (mixC l i)[j]? = if j < i then (mendC l)[j]? else l[j]? := by
  unfold mixC
  by_cases hj : j < i
  · rw [if_pos hj, List.getElem?_append_left (by rw [List.length_take, mend_len]; omega), List.getElem?_take, if_pos hj]
  · rw [if_neg hj, List.getElem?_append_right (by rw [List.length_take, mend_len]; omega), List.getElem?_drop, List.length_take, mend_len]
    congr 1; omega
theorem mend_get (l : List S26) (j : Nat) (h : j < l.length) : (mendC l)[j]? = some (if aloneC l (j : Int) = true then blankS (rd_T26 l (j : Int)) else rd_T26 l (j : Int)) := by
  unfold mendC rd_T26
  rw [List.getElem?_mapIdx, Int.toNat_natCast, List.getD_eq_getElem?_getD, List.getElem?_eq_getElem h]
  rfl
theorem rd_get (l : List S26) (j : Nat) (h : j < l.length) : l[j]? = some (rd_T26 l (j : Int)) := by
  unfold rd_T26
  rw [Int.toNat_natCast, List.getD_eq_getElem?_getD, List.getElem?_eq_getElem h]
  rfl
theorem mix_no (l : List S26) (i : Nat) (h : i < l.length) (ha : aloneC l (i : Int) = false) : mixC l (i + 1) = mixC l i := by
  refine List.ext_getElem? fun j => ?_
  rw [mix_get _ _ _ (by omega), mix_get _ _ _ (by omega)]
  by_cases hj : j = i
  · subst hj
    rw [if_pos (by omega), if_neg (by omega), mend_get l j h, ha, rd_get l j h]
    simp
  · by_cases h1 : j < i
    · rw [if_pos (by omega), if_pos h1]
    · rw [if_neg (by omega), if_neg h1]
theorem mix_yes (l : List S26) (i : Nat) (h : i < l.length) (ha : aloneC l (i : Int) = true) : mixC l (i + 1) = (mixC l i).set i (blankS (rd_T26 l (i : Int))) := by
  refine List.ext_getElem? fun j => ?_
  rw [List.getElem?_set, mix_get _ _ _ (by omega), mix_get _ _ _ (by omega), mix_len _ _ (by omega)]
  by_cases hj : j = i
  · subst hj
    rw [if_pos (by omega), mend_get l j h, if_pos ha, if_pos rfl, if_pos h]
  · rw [if_neg (Ne.symm hj)]
    by_cases h1 : j < i
    · rw [if_pos (by omega), if_pos h1]
    · rw [if_neg (by omega), if_neg h1]
set_option maxHeartbeats 4000000 in
set_option maxRecDepth 100000 in
theorem mend_any (hBlank : ∀ (a b c : Int) (w : World), Calls Try.prog 21 #[.agg #[.int .u8 a, .int .u8 b, .int .u8 c]] w fun e w' => e = .returned (.agg #[.int .i32 32, .int .i32 0, .int .i32 0, .int .u8 1, .int .u8 a, .int .u8 b, .int .u8 c]) ∧ Below w.heap.size w w')
    (A : Option Addr) (c : Nat) (l : List S26) (w : World) (hC : Kd.C k26 w A l.length l) (hlen : l.length < 8796093022208) :
    Calls Try.prog 49 #[.slice A l.length c] w fun e w' => ∃ v, e = .returned v ∧ Kd.R k26 26 w' w.heap.size (fun _ => True) v (mendC l) ∧ Below w.heap.size w w' := by
  have hub := Try.underlying26
  have HBl := Aside0.mk hBlank
  have HC := Aside0.mk hC
  have HL := Aside0.mk hlen
  clear hBlank hC
  go_enter Try.func49, Try.ntmps49
  go_wp2
  refine wp_scope_same (by intro _ _ _ h; exact h) ?_
  go_wp2_with (first | ((with_reducible refine gate_dst (N := 8) rfl ?_); go_must (refine Kd.R_make k26 (w0 := w) w.heap.size 26 rfl (N := 8) rfl 58 (.tmp 7) (.tmp 7) rfl (l.length : Int) rfl rfl Try.underlying58 (.agg #[(.int .i32 0), (.int .i32 0), (.int .i32 0), (.int .u8 0), (.int .u8 0), (.int .u8 0), (.int .u8 0)]) 16 infoC rfl (by decide) (by omega) z26 (ok := fun _ => True) (okp := fun _ => False) (k26_mkM _ _ _ z26) (fun _ h => h.elim) trivial (by omega) (by have := HL.out; omega) (Below.refl _ _) (Nat.le_refl _) ?_); intro v1 w1 ho hb hg hat; have HO := Aside0.mk ho; have HB := Aside0.mk hb; clear ho hb hg hat) | ((with_reducible refine gate_builtin (b := .copy) (xs := #[.tmp 9, .tmp 10]) rfl ?_); go_must (refine R_copy_all k26 (w0 := w) w.heap.size rfl (.tmp 9) (.tmp 10) 58 58 26 rfl Try.underlying58 (by kernel_rfl) (by decide) v1 _ l _ _ _ (fun _ => True) (fun _ => False) rfl rfl ?hl HO.out (Kd.C_below HC.out HB.out) (fun _ _ _ h => k26_ofK h) (fun _ h => h.elim) HB.out (Below.size HB.out) ?_); (case hl => simp); intro w2 ho hb hg; have HO2 := Aside0.mk ho; have HB2 := Aside0.mk hb; clear ho hb hg; clear HO HB))
  refine wp_label ?_
  go_wp2
  go_loopg [14] (l.length + 1) (fun kq v14 w' => ∃ i : Nat, v14 = .int .i64 i ∧ i ≤ l.length ∧ Aside0 (kq = l.length + 1 - i) ∧ Aside0 (Kd.R k26 26 w' w.heap.size (fun _ => True) v1 (mixC l i)) ∧ Aside0 (Below w.heap.size w w'))
  case atStart => exact ⟨0, rfl, by omega, ⟨rfl⟩, ⟨by rw [mix_zero]; exact HO2.out⟩, HB2⟩
  case round =>
    clear HO2 HB2
    obtain ⟨i, rfl, hi, HK, HO, HB⟩ := hrel
    by_cases hlt : i < l.length
    · obtain ⟨g, cap, hv, hgb, hgl, -⟩ := Kd.R_form HO.out (by rw [mix_len _ _ (by omega)]; omega)
      rw [mix_len _ _ (by omega)] at hv
      subst hv
      obtain ⟨ad, rfl, c0, c1, c2, c3, c4, c5, c6⟩ := at_T26 (Kd.C_below HC.out HB.out) (i : Int) (by omega) (by omega)
      obtain ⟨b, hb⟩ : ∃ b, aloneC l (i : Int) = b := ⟨_, rfl⟩
      have HX := Aside0.mk (And.intro hb hlt)
      have HA := Aside0.mk hb
      obtain ⟨x, hx⟩ : ∃ x, rd_T26 l (i : Int) = x := ⟨_, rfl⟩
      rw [hx] at c0 c1 c2 c3 c4 c5 c6
      have HXX := Aside0.mk hx
      simp only [Int.toNat_natCast] at c0 c1 c2 c3 c4 c5 c6
      clear hb hx
      cases b
      · go_wp2_with (first | (go_at_call 94; (with_reducible refine (alone_any (some ad) c l (i : Int) false _ ?hC HA.out).mono ?_); (case hC => exact Kd.C_below HC.out (below_then HB.out HB.out.size (by repeat (first | exact Below.refl _ _ | apply below_alloc | apply pw_below_drewN | apply below_drew1 | (refine Below.setCell ?_ (by simp) _))))); rintro e w3 ⟨rfl, hbb⟩; have HBB := Aside0.mk (show Below wr.heap.size wr w3 from below_step (by repeat (first | exact Below.refl _ _ | apply below_alloc | apply pw_below_drewN | apply below_drew1 | (refine Below.setCell ?_ (by simp) _))) hbb); clear hbb))
        go_roundg (l.length + 1 - (i + 1))
        case measure => have := HK.out; omega
        case rel => exact ⟨i + 1, by go_num, by omega, ⟨rfl⟩, ⟨by rw [mix_no l i HX.out.2 HX.out.1]; exact Kd.R_below HO.out HBB.out⟩, ⟨below_then HB.out HB.out.size HBB.out⟩⟩
      · obtain ⟨cc, hcl, hcM, hcc, hff⟩ := Kd.R_elem HO.out z26 (i : Int) (by omega) (by omega)
        have HE := Aside0.mk (And.intro hcl hcc)
        clear hcl hcM hcc hff
        go_wp2_with (first | (go_at_call 94; (with_reducible refine (alone_any (some ad) c l (i : Int) true _ ?hC HA.out).mono ?_); (case hC => exact Kd.C_below HC.out (below_then HB.out HB.out.size (by repeat (first | exact Below.refl _ _ | apply below_alloc | apply pw_below_drewN | apply below_drew1 | (refine Below.setCell ?_ (by simp) _))))); rintro e w3 ⟨rfl, hbb⟩; have HBB := Aside0.mk (show Below wr.heap.size wr w3 from below_step (by repeat (first | exact Below.refl _ _ | apply below_alloc | apply pw_below_drewN | apply below_drew1 | (refine Below.setCell ?_ (by simp) _))) hbb); have d4 : w3.cell? ⟨wr.heap.size, 4, none⟩ = some (.int .u8 x.f3.f0) := (hbb.cell (p := ⟨wr.heap.size, 4, none⟩) (by simp)).trans (by simp); have d5 : w3.cell? ⟨wr.heap.size, 5, none⟩ = some (.int .u8 x.f3.f1) := (hbb.cell (p := ⟨wr.heap.size, 5, none⟩) (by simp)).trans (by simp); have d6 : w3.cell? ⟨wr.heap.size, 6, none⟩ = some (.int .u8 x.f3.f2) := (hbb.cell (p := ⟨wr.heap.size, 6, none⟩) (by simp)).trans (by simp); clear hbb) | (go_at_call 21; (with_reducible refine (HBl.out x.f3.f0 x.f3.f1 x.f3.f2 _).mono ?_); rintro e w4 ⟨rfl, hbb⟩; have HBC := Aside0.mk (show Below wr.heap.size wr w4 from below_step HBB.out hbb); have HB4 := Aside0.mk (show Below w.heap.size w w4 from below_then HB.out HB.out.size HBC.out); clear hbb) | ((with_reducible refine gate_store (t := 26) (p := 28) rfl ?_); go_must (refine Kd.R_store k26 (w0 := w) w.heap.size rfl rfl 26 (.tmp 28) (.tmp 27) rfl 26 (g := g) (n := l.length) (cap := cap) (o' := i * 7) (i : Int) 0 (mixC l i) (blankS x) _ [.int .i32 32, .int .i32 0, .int .i32 0, .int .u8 1, .int .u8 x.f3.f0, .int .u8 x.f3.f1, .int .u8 x.f3.f2] cc (fun _ => True) (fun _ => False) ?ha ?ho rfl rfl ?ht ?h1 ?hO ?hq0 ?hq1 HE.out.1 ?hcc ?hj ?hM (fun _ h => h.elim) ?hB ?_); go_must (case ha => rfl); go_must (case hq0 => omega); go_must (case hq1 => omega); go_must (case ho => rw [Int.toNat_natCast]; rfl); go_must (case ht => kernel_rfl); go_must (case h1 => simp [Value.oneCell']; done); go_must (case hO => exact Kd.R_below HO.out HBC.out); go_must (case hcc => exact fun j u hj => (HBC.out.cell (p := ⟨g, _, none⟩) hgl).trans (HE.out.2 j u hj)); go_must (case hj => exact Nat.le_refl 7); go_must (case hM => have hcl := HE.out.1; rw [List.take_zero, List.nil_append, Nat.zero_add, List.drop_eq_nil_of_le (by rw [hcl]; exact Nat.le_refl 7), List.append_nil]; exact k26_mkM _ _ _ (blankS x)); go_must (case hB => exact HB4.out); intro w5 ho hb hg; simp only [Int.toNat_natCast] at ho; have HO3 := Aside0.mk ho; have HB3 := Aside0.mk hb; clear ho hb hg))
        go_roundg (l.length + 1 - (i + 1))
        case measure => have := HK.out; omega
        case rel => exact ⟨i + 1, by go_num, by omega, ⟨rfl⟩, ⟨by rw [mix_yes l i HX.out.2 HX.out.1, HXX.out]; exact HO3.out⟩, HB3⟩
    · obtain rfl : i = l.length := by omega
      clear hi hlt
      go_wp2
      go_ret
      exact ⟨_, rfl, by rw [← mix_end]; exact HO.out, HB.out⟩
/-! ### line_Mend: function 49: of own contracts -/
def line_Mend.f (l0 : List (S26)) : Option ((List (S26))) := if l0.length < 8796093022208 then some (mendC l0) else none
theorem line_Mend.calls (A0 : Option Addr) (c0 : Nat) (l0 : List (S26)) (r : List (S26)) (w : World) (hr0 : Kd.C k26 w A0 l0.length l0) (hc0 : l0.length ≤ c0) (h : line_Mend.f l0 = some r) :
    Calls Try.prog 49 #[.slice A0 l0.length c0] w fun e w' => ∃ v0_ : Value, e = .returned (v0_) ∧ Kd.R k26 26 w' w.heap.size (fun _ => True) v0_ r ∧ Below w.heap.size w w' := by
  unfold line_Mend.f at h
  by_cases hb : l0.length < 8796093022208
  · rw [if_pos hb] at h
    obtain rfl := Option.some.inj h
    exact mend_any (fun a b c w => cell_Blank.calls a b c _ _ _ _ _ _ _ w rfl) A0 c0 l0 w hr0 hb
  · rw [if_neg hb] at h; cases h

set_option maxHeartbeats 4000000 in
set_option maxRecDepth 100000 in
theorem laid_any (hMend : ∀ (A : Option Addr) (c : Nat) (l : List S26) (w : World), Kd.C k26 w A l.length l → l.length ≤ c → l.length < 8796093022208 →
      Calls Try.prog 49 #[.slice A l.length c] w fun e w' => ∃ v, e = .returned v ∧ Kd.R k26 26 w' w.heap.size (fun _ => True) v (mendC l) ∧ Below w.heap.size w w')
    (A : Option Addr) (c : Nat) (l : List S26) (i : Int) (A2 : Option Addr) (c2 : Nat) (l2 : List S26) (w : World) (hC : Kd.C k26 w A l.length l) (hc : l.length ≤ c) (hC2 : Kd.C k26 w A2 l2.length l2)
    (h0 : 0 ≤ i) (h1 : i + l2.length ≤ l.length) (hlen : l.length < 1000000000000) :
    Calls Try.prog 96 #[.slice A l.length c, .int .i64 i, .slice A2 l2.length c2] w fun e w' => ∃ v, e = .returned v ∧ Kd.R k26 26 w' w.heap.size (fun _ => True) v (mendC (l.take i.toNat ++ l2 ++ l.drop (i.toNat + l2.length))) ∧ Below w.heap.size w w' := by
  obtain ⟨hcut, hread⟩ := cut_cap (P := Try.prog) k26 58 26 Try.underlying58 infoC A c l i h0 (by omega) hc
  obtain ⟨A3, hcut3, hread3, hc3⟩ := cut_drop (P := Try.prog) k26 58 26 .i64 Try.underlying58 infoC A c l (i + l2.length) (by omega) h1 hc
  have hR := hread w hC
  have hR3 := hread3 w hC
  obtain ⟨X, hX⟩ : ∃ X, l.take i.toNat = X := ⟨_, rfl⟩
  obtain ⟨Y, hY⟩ : ∃ Y, l.drop (i + l2.length).toNat = Y := ⟨_, rfl⟩
  have hXl : X.length ≤ l.length := by rw [← hX, List.length_take]; omega
  have hYl : Y.length ≤ l.length := by rw [← hY, List.length_drop]; omega
  have hZ : l.take i.toNat ++ l2 ++ l.drop (i.toNat + l2.length) = X ++ l2 ++ Y := by rw [← hX, ← hY]; congr 2; omega
  rw [hZ]
  obtain ⟨XL, hXL⟩ : ∃ XL, X ++ l2 = XL := ⟨_, rfl⟩
  obtain ⟨Z, hZZ⟩ : ∃ Z, XL ++ Y = Z := ⟨_, rfl⟩
  rw [hXL, hZZ]
  have hXLl : XL.length = X.length + l2.length := by rw [← hXL, List.length_append]
  have hZZl : Z.length = XL.length + Y.length := by rw [← hZZ, List.length_append]
  have NX := Aside0.mk hXL
  have NZ := Aside0.mk hZZ
  rw [hX] at hcut hR
  rw [hY] at hcut3 hR3
  have HF := Aside0.mk (show RowF k26 26 w w.heap.size (.slice A X.length X.length) X from .inr ⟨A, rfl, hR⟩)
  have HC2 := Aside0.mk hC2
  have HC3 := Aside0.mk hR3
  have HM := Aside0.mk hMend
  have HLL := Aside0.mk (show X.length ≤ l.length ∧ Y.length ≤ l.length ∧ l2.length ≤ l.length ∧ l.length < 1000000000000 ∧ XL.length = X.length + l2.length ∧ Z.length = XL.length + Y.length from ⟨hXl, hYl, by omega, hlen, hXLl, hZZl⟩)
  clear hXLl hZZl hXL hZZ hread hread3 hC hR hR3 hX hY hZ hXl hYl hC2 hMend hc3
  go_enter Try.func96, Try.ntmps96
  go_wp2_with (first | ((with_reducible refine gate_builtin (b := .append) (xs := #[.tmp 11, .tmp 12]) rfl ?_); go_must (at_builtin); go_must (refine R_append_full k26 (w0 := w) w.heap.size rfl (.tmp 11) (.tmp 12) 58 26 (.agg #[(.int .i32 0), (.int .i32 0), (.int .i32 0), (.int .u8 0), (.int .u8 0), (.int .u8 0), (.int .u8 0)]) 16 rfl Try.underlying58 infoC rfl (by decide) (by omega) _ X l2 _ _ _ rfl rfl HF.out HC2.out (fun _ _ _ h => k26_ofK h) (Below.refl _ _) (Nat.le_refl _) ?aL ?_); go_must (case aL => have := HLL.out; omega); intro v3 w3 ho hb; rw [NX.out] at ho; have HO3 := Aside0.mk ho; have HB3 := Aside0.mk hb; clear ho hb) | ((with_reducible refine gate_builtin (b := .append) (xs := #[.tmp 14, .tmp 20]) rfl ?_); go_must (at_builtin); go_must (refine R_append_full k26 (w0 := w) w.heap.size rfl (.tmp 14) (.tmp 20) 58 26 (.agg #[(.int .i32 0), (.int .i32 0), (.int .i32 0), (.int .u8 0), (.int .u8 0), (.int .u8 0), (.int .u8 0)]) 16 rfl Try.underlying58 infoC rfl (by decide) (by omega) _ XL Y _ _ _ rfl rfl HO3.out (Kd.C_below HC3.out HB3.out) (fun _ _ _ h => k26_ofK h) HB3.out (Below.size HB3.out) ?aL ?_); go_must (case aL => have := HLL.out; omega); intro v4 w4 ho hb; rw [NZ.out] at ho; obtain ⟨A4, c4, rfl, hc4, hC4⟩ := RowF.reads ho; have HC4 := Aside0.mk (And.intro hC4 hc4); have HB4 := Aside0.mk hb; clear ho hb hC4 hc4) | (go_at_call 49; go_must (refine (HM.out A4 c4 Z _ HC4.out.1 HC4.out.2 ?hl).mono ?_); go_must (case hl => have := HLL.out; omega); rintro e w5 ⟨v5, rfl, hR, hbb⟩; have HO5 := Aside0.mk (Kd.R_lower hR (Below.size HB4.out)); have HB5 := Aside0.mk (below_then HB4.out (Below.size HB4.out) hbb); clear hR hbb))
  go_ret
  exact ⟨_, rfl, HO5.out, HB5.out⟩
/-! ### line_laid: function 96: of own contracts -/
def line_laid.f (l0 : List (S26)) (a1 : Int) (l2 : List (S26)) : Option ((List (S26))) := if 0 ≤ a1 ∧ a1 + l2.length ≤ l0.length ∧ l0.length < 1000000000000 then some (mendC (l0.take a1.toNat ++ l2 ++ l0.drop (a1.toNat + l2.length))) else none
theorem line_laid.calls (A0 : Option Addr) (c0 : Nat) (l0 : List (S26)) (a1 : Int) (A2 : Option Addr) (c2 : Nat) (l2 : List (S26)) (r : List (S26)) (w : World) (hr0 : Kd.C k26 w A0 l0.length l0) (hc0 : l0.length ≤ c0) (hr2 : Kd.C k26 w A2 l2.length l2) (hc2 : l2.length ≤ c2) (h : line_laid.f l0 a1 l2 = some r) :
    Calls Try.prog 96 #[.slice A0 l0.length c0, .int .i64 a1, .slice A2 l2.length c2] w fun e w' => ∃ v0_ : Value, e = .returned (v0_) ∧ Kd.R k26 26 w' w.heap.size (fun _ => True) v0_ r ∧ Below w.heap.size w w' := by
  unfold line_laid.f at h
  by_cases hb : 0 ≤ a1 ∧ a1 + l2.length ≤ l0.length ∧ l0.length < 1000000000000
  · rw [if_pos hb] at h
    obtain rfl := Option.some.inj h
    exact laid_any (fun A c l w hC hc hl => line_Mend.calls A c l (mendC l) w hC hc (by unfold line_Mend.f; rw [if_pos hl])) A0 c0 l0 a1 A2 c2 l2 w hr0 hc0 hr2 hb.1 hb.2.1 hb.2.2
  · rw [if_neg hb] at h; cases h

/-! ### line_Put: function 37 -/
def line_Put.j0 : Nat → List (S26) → Int → Bool → Int → Int → Int → Int → Int → Int → Int → Option ((List (S26)) × Bool)
  | 0, _, _, _, _, _, _, _, _, _, _ => none
  | k + 1, x0, x1, x35, x140000, x140001, x140002, x140003, x140004, x140005, x140006 => if x35 = true then ((cell_Cell_95.f x0).bind fun t141 => (some (t141, false))) else (if x140003 = 2 then ((cell_Rest.f x140000 x140001 x140002 x140003 x140004 x140005 x140006).bind fun bt144 => ((line_laid.f x0 x1 (([(⟨x140000, (⟨x140001, x140002⟩ : S22), x140003, (⟨x140004, x140005, x140006⟩ : S24)⟩ : S26), (⟨bt144.1, (⟨bt144.2.1, bt144.2.2.1⟩ : S22), bt144.2.2.2.1, (⟨bt144.2.2.2.2.1, bt144.2.2.2.2.2.1, bt144.2.2.2.2.2.2⟩ : S24)⟩ : S26)] : List (S26)))).bind fun t154 => (some (t154, true)))) else ((line_laid.f x0 x1 (([(⟨x140000, (⟨x140001, x140002⟩ : S22), x140003, (⟨x140004, x140005, x140006⟩ : S24)⟩ : S26)] : List (S26)))).bind fun t160 => (some (t160, true))))
def line_Put.f (k : Nat) (l0 : List (S26)) (a1 : Int) (a2_0 : Int) (a2_1 : Int) (a2_2 : Int) (a2_3 : Int) (a2_4 : Int) (a2_5 : Int) (a2_6 : Int) : Option ((List (S26)) × Bool) := if a2_3 = 0 then (line_Put.j0 k l0 a1 true a2_0 a2_1 a2_2 a2_3 a2_4 a2_5 a2_6) else ((cell_Right.f a2_0 a2_1 a2_2 a2_3 a2_4 a2_5 a2_6).bind fun t140 => (if t140 = true then (if a1 < 0 then (line_Put.j0 k l0 a1 true a2_0 a2_1 a2_2 a2_3 a2_4 a2_5 a2_6) else (if a1 ≥ (l0.length : Int) then (line_Put.j0 k l0 a1 true a2_0 a2_1 a2_2 a2_3 a2_4 a2_5 a2_6) else (line_Put.j0 k l0 a1 (decide ((wrap64 ((l0.length : Int) - a1)) < (wrap64 (a2_3)))) a2_0 a2_1 a2_2 a2_3 a2_4 a2_5 a2_6))) else (line_Put.j0 k l0 a1 true a2_0 a2_1 a2_2 a2_3 a2_4 a2_5 a2_6)))
theorem line_Put.mono_l : ∀ k, (∀ y0 y1 y2 y3 y4 y5 y6 y7 y8 y9, LeO (line_Put.j0 k y0 y1 y2 y3 y4 y5 y6 y7 y8 y9) (line_Put.j0 (k + 1) y0 y1 y2 y3 y4 y5 y6 y7 y8 y9))
  | 0 => fun _ _ _ _ _ _ _ _ _ _ r h => by simp [line_Put.j0] at h
  | k + 1 => by
    have ih0 := line_Put.mono_l k
    · intro y0 y1 y2 y3 y4 y5 y6 y7 y8 y9
      unfold line_Put.j0
      repeat' first
      | (with_reducible exact ih0 _ _ _ _ _ _ _ _ _ _)
      | (with_reducible exact LeO.refl _)
      | (with_reducible exact LeO.none _)
      | (with_reducible refine LeO.ite ?_ ?_)
      | (with_reducible refine LeO.bind ?_ (fun _ => ?_))
      | exact ih0 _ _ _ _ _ _ _ _ _ _
      | exact LeO.none _
      | refine LeO.ite ?_ ?_
      | refine LeO.bind ?_ (fun _ => ?_)
theorem line_Put.mono : ∀ a0 a1 a2 a3 a4 a5 a6 a7 a8 k, LeO (line_Put.f k a0 a1 a2 a3 a4 a5 a6 a7 a8) (line_Put.f (k + 1) a0 a1 a2 a3 a4 a5 a6 a7 a8) := by
  intro a0 a1 a2 a3 a4 a5 a6 a7 a8 k
  have ih0 := line_Put.mono_l k
  unfold line_Put.f
  repeat' first
      | (with_reducible exact ih0 _ _ _ _ _ _ _ _ _ _)
      | (with_reducible exact LeO.refl _)
      | (with_reducible exact LeO.none _)
      | (with_reducible refine LeO.ite ?_ ?_)
      | (with_reducible refine LeO.bind ?_ (fun _ => ?_))
      | exact ih0 _ _ _ _ _ _ _ _ _ _
      | exact LeO.none _
      | refine LeO.ite ?_ ?_
      | refine LeO.bind ?_ (fun _ => ?_)
def line_Put.T4 : Bool × List (List Nat × List Nat) := (true, [([], []), ([], []), ([], []), ([], []), ([3], [3]), ([2, 4], [2, 4]), ([0, 1, 5, 4], [0, 1, 5]), ([6, 6, 0, 1, 2, 3, 4, 5, 6], [6]), ([7, 0, 1, 2, 3, 4, 5, 6, 7], [])])
def line_Put.B4 : List Nat := [0, 0, 0, 0, 8, 28, 63, 127, 255]
theorem line_Put.tab4 : rtab .any (opsOf Try.f37 4) = line_Put.T4 := by kernel_rfl
theorem line_Put.bits4 : waitsOk line_Put.T4.2 line_Put.B4 = true := by kernel_rfl
set_option maxHeartbeats 8000000 in
set_option maxRecDepth 100000 in
theorem line_Put.calls (k : Nat) (A0 : Option Addr) (c0 : Nat) (l0 : List (S26)) (a1 : Int) (a2_0 : Int) (a2_1 : Int) (a2_2 : Int) (a2_3 : Int) (a2_4 : Int) (a2_5 : Int) (a2_6 : Int) (r1 : List (S26)) (r2 : Bool) (w : World) (hr0 : Kd.C k26 w A0 l0.length l0) (hc0 : l0.length ≤ c0) (h : line_Put.f k l0 a1 a2_0 a2_1 a2_2 a2_3 a2_4 a2_5 a2_6 = some (r1, r2)) :
    Calls Try.prog 37 #[.slice A0 l0.length c0, .int .i64 a1, .agg #[.int .i32 a2_0, .int .i32 a2_1, .int .i32 a2_2, .int .u8 a2_3, .int .u8 a2_4, .int .u8 a2_5, .int .u8 a2_6]] w fun e w' => ∃ v0_ : Value, e = .returned (.tuple #[v0_, .bool r2]) ∧ Kd.R k26 26 w' w.heap.size (fun _ => True) v0_ r1 ∧ Below w.heap.size w w' := by
  have hu26 := Try.underlying26
  have HR0 := Aside0.mk hr0
  have HC0 := Aside0.mk hc0
  clear hr0 hc0
  have HB := Aside0.mk (Below.refl w.heap.size w)
  have H : (if a2_3 = 0 then (line_Put.j0 k l0 a1 true a2_0 a2_1 a2_2 a2_3 a2_4 a2_5 a2_6) else ((cell_Right.f a2_0 a2_1 a2_2 a2_3 a2_4 a2_5 a2_6).bind fun t140 => (if t140 = true then (if a1 < 0 then (line_Put.j0 k l0 a1 true a2_0 a2_1 a2_2 a2_3 a2_4 a2_5 a2_6) else (if a1 ≥ (l0.length : Int) then (line_Put.j0 k l0 a1 true a2_0 a2_1 a2_2 a2_3 a2_4 a2_5 a2_6) else (line_Put.j0 k l0 a1 (decide ((wrap64 ((l0.length : Int) - a1)) < (wrap64 (a2_3)))) a2_0 a2_1 a2_2 a2_3 a2_4 a2_5 a2_6))) else (line_Put.j0 k l0 a1 true a2_0 a2_1 a2_2 a2_3 a2_4 a2_5 a2_6)))) = some (r1, r2) := h
  clear h
  have HC4 := Aside0.mk H
  clear H
  go_enter Try.func37, Try.ntmps37
  go_upto_region 1 with (first | ((with_reducible refine gate_dst (N := 5) rfl ?_); (try (refine gate_guard (by rfl) ?_; dsimp only)); refine box_event ?hg (N := 5) ?hd (cs := #[.int .i32 a2_0, .int .i32 a2_1, .int .i32 a2_2, .int .u8 a2_3, .int .u8 a2_4, .int .u8 a2_5, .int .u8 a2_6]) (t := 26) ?hr ?_; (case hd => rfl); (case hg => rfl); (case hr => first | (go_simp; done) | (go_simp; rfl)); intro gb139 hg w5 hbox hb; have n0_ := Aside0.mk (below_step (by repeat (first | (with_reducible first | exact HB.out | apply below_alloc | apply pw_below_drewN | apply below_drew1) | exact HB.out)) hb); have n1_ := Aside0.mk (hbox); have n2_ := Aside0.mk ((by rw [hg]; exact (below_size (by repeat (first | (with_reducible first | exact HB.out | apply below_alloc | apply pw_below_drewN | apply below_drew1) | exact HB.out))) : w.heap.size ≤ gb139)); have n3_ := Aside0.mk ((by rw [hg]; exact (below_size (by repeat (first | (with_reducible first | exact HB.out | apply below_alloc | apply pw_below_drewN | apply below_drew1) | exact HB.out))) : w.heap.size ≤ gb139)); clear HB; have HB := n0_; have BK139 := n1_; have GW139 := n2_; have GE139 := n3_; clear n0_ n1_ n2_ n3_; clear hb hbox hg))
  (try simp only [Act.put, List.setIfInBounds_toArray, List.set_cons_zero, List.set_cons_succ])
  go_cut [35] (fun v35 wc => ∃ (kq : Nat) (x35_3 : Bool), v35 = .bool x35_3 ∧ Aside0 (line_Put.j0 kq l0 a1 x35_3 a2_0 a2_1 a2_2 a2_3 a2_4 a2_5 a2_6 = some (r1, r2)) ∧ Aside0 (kq ≤ k) ∧ Aside0 (wc.heap[gb139]? = some (.cells #[.int .i32 a2_0, .int .i32 a2_1, .int .i32 a2_2, .int .u8 a2_3, .int .u8 a2_4, .int .u8 a2_5, .int .u8 a2_6] 26 (0, 0))) ∧ Aside0 (Below w.heap.size w wc))
  case first =>
    have H := HC4.out
    clear HC4
    by_cases c6 : a2_3 = 0
    · rw [if_pos c6] at H
      have c6b0 : (a2_3 == 0) = true := beq_iff_eq.mpr c6
      have c6b1 : (a2_3 != 0) = false := bne_eq_false_iff_eq.mpr c6
      clear c6
      (first | rw [c6b0] | (simp only [i64_w, i32_w]; rw [c6b0]) | skip)
      have H' := Aside0.mk H
      clear H
      have hcz7_0 : w5.cell? ⟨gb139, 0, none⟩ = some (.int .i32 a2_0) := (blk_cell BK139.out 0).trans rfl
      have hcz7_1 : w5.cell? ⟨gb139, 1, none⟩ = some (.int .i32 a2_1) := (blk_cell BK139.out 1).trans rfl
      have hcz7_2 : w5.cell? ⟨gb139, 2, none⟩ = some (.int .i32 a2_2) := (blk_cell BK139.out 2).trans rfl
      have hcz7_3 : w5.cell? ⟨gb139, 3, none⟩ = some (.int .u8 a2_3) := (blk_cell BK139.out 3).trans rfl
      have hcz7_4 : w5.cell? ⟨gb139, 4, none⟩ = some (.int .u8 a2_4) := (blk_cell BK139.out 4).trans rfl
      have hcz7_5 : w5.cell? ⟨gb139, 5, none⟩ = some (.int .u8 a2_5) := (blk_cell BK139.out 5).trans rfl
      have hcz7_6 : w5.cell? ⟨gb139, 6, none⟩ = some (.int .u8 a2_6) := (blk_cell BK139.out 6).trans rfl
      have hfz7_0 := blk_frozen BK139.out 0
      have hfz7_1 := blk_frozen BK139.out 1
      have hfz7_2 := blk_frozen BK139.out 2
      have hfz7_3 := blk_frozen BK139.out 3
      have hfz7_4 := blk_frozen BK139.out 4
      have hfz7_5 := blk_frozen BK139.out 5
      have hfz7_6 := blk_frozen BK139.out 6
      go_wp2
      go_meet
      case rel => exact ⟨_, (true), (by first | rfl | (simp; done) | (simp [*]; done)), H', ⟨by first | omega | exact Nat.le_refl _⟩, ⟨by (with_reducible repeat (first | refine blk_drewN ?_ _ | refine blk_drew ?_ | refine blk_alloc ?_ _)); exact BK139.out⟩, ⟨by repeat (first | (with_reducible first | exact HB.out | apply below_alloc | apply pw_below_drewN | apply below_drew1 | refine below_set ?_ GE139.out) | exact HB.out)⟩⟩
    · rw [if_neg c6] at H
      have c6b0 : (a2_3 == 0) = false := beq_eq_false_iff_ne.mpr c6
      have c6b1 : (a2_3 != 0) = true := bne_iff_ne.mpr c6
      (first | rw [c6b0] | (simp only [i64_w, i32_w]; rw [c6b0]) | skip)
      replace H := Option.bind_eq_some_iff.mp H
      obtain ⟨t140, A80, H⟩ := H
      replace H : (if t140 = true then (if a1 < 0 then (line_Put.j0 k l0 a1 true a2_0 a2_1 a2_2 a2_3 a2_4 a2_5 a2_6) else (if a1 ≥ (l0.length : Int) then (line_Put.j0 k l0 a1 true a2_0 a2_1 a2_2 a2_3 a2_4 a2_5 a2_6) else (line_Put.j0 k l0 a1 (decide ((wrap64 ((l0.length : Int) - a1)) < (wrap64 (a2_3)))) a2_0 a2_1 a2_2 a2_3 a2_4 a2_5 a2_6))) else (line_Put.j0 k l0 a1 true a2_0 a2_1 a2_2 a2_3 a2_4 a2_5 a2_6)) = some (r1, r2) := H
      have A8 := Aside0.mk A80
      clear A80
      by_cases c9 : t140 = true
      · subst c9
        have H1 : (if a1 < 0 then (line_Put.j0 k l0 a1 true a2_0 a2_1 a2_2 a2_3 a2_4 a2_5 a2_6) else (if a1 ≥ (l0.length : Int) then (line_Put.j0 k l0 a1 true a2_0 a2_1 a2_2 a2_3 a2_4 a2_5 a2_6) else (line_Put.j0 k l0 a1 (decide ((wrap64 ((l0.length : Int) - a1)) < (wrap64 (a2_3)))) a2_0 a2_1 a2_2 a2_3 a2_4 a2_5 a2_6))) = some (r1, r2) := by rw [if_pos rfl] at H; exact H
        clear H
        have H := H1
        clear H1
        by_cases c10 : a1 < 0
        · rw [if_pos c10] at H
          have c10b0 : decide (a1 < 0) = true := decide_eq_true c10
          clear c10
          have H' := Aside0.mk H
          clear H
          have hcz11_0 : w5.cell? ⟨gb139, 0, none⟩ = some (.int .i32 a2_0) := (blk_cell BK139.out 0).trans rfl
          have hcz11_1 : w5.cell? ⟨gb139, 1, none⟩ = some (.int .i32 a2_1) := (blk_cell BK139.out 1).trans rfl
          have hcz11_2 : w5.cell? ⟨gb139, 2, none⟩ = some (.int .i32 a2_2) := (blk_cell BK139.out 2).trans rfl
          have hcz11_3 : w5.cell? ⟨gb139, 3, none⟩ = some (.int .u8 a2_3) := (blk_cell BK139.out 3).trans rfl
          have hcz11_4 : w5.cell? ⟨gb139, 4, none⟩ = some (.int .u8 a2_4) := (blk_cell BK139.out 4).trans rfl
          have hcz11_5 : w5.cell? ⟨gb139, 5, none⟩ = some (.int .u8 a2_5) := (blk_cell BK139.out 5).trans rfl
          have hcz11_6 : w5.cell? ⟨gb139, 6, none⟩ = some (.int .u8 a2_6) := (blk_cell BK139.out 6).trans rfl
          have hfz11_0 := blk_frozen BK139.out 0
          have hfz11_1 := blk_frozen BK139.out 1
          have hfz11_2 := blk_frozen BK139.out 2
          have hfz11_3 := blk_frozen BK139.out 3
          have hfz11_4 := blk_frozen BK139.out 4
          have hfz11_5 := blk_frozen BK139.out 5
          have hfz11_6 := blk_frozen BK139.out 6
          go_wp2_with (first | (go_at_call 26; (with_reducible refine (cell_Right.calls a2_0 a2_1 a2_2 a2_3 a2_4 a2_5 a2_6 true _ A8.out).mono ?_); rintro e w12 ⟨rfl, hb⟩; have n0_ := Aside0.mk (blk_below (g := gb139) (o := .cells #[.int .i32 a2_0, .int .i32 a2_1, .int .i32 a2_2, .int .u8 a2_3, .int .u8 a2_4, .int .u8 a2_5, .int .u8 a2_6] 26 (0, 0)) (by (with_reducible repeat (first | refine blk_drewN ?_ _ | refine blk_drew ?_ | refine blk_alloc ?_ _)); exact BK139.out) hb); have n1_ := Aside0.mk (below_step (by repeat (first | (with_reducible first | exact HB.out | apply below_alloc | apply pw_below_drewN | apply below_drew1 | refine below_set ?_ GE139.out) | exact HB.out)) hb); clear BK139; clear HB; have BK139 := n0_; have HB := n1_; clear n0_ n1_; (try clear hb); (try clear hb2); (try clear hk); (try clear hi)))
          go_meet
          case rel => exact ⟨_, (true), (by first | rfl | (simp; done) | (simp [*]; done)), H', ⟨by first | omega | exact Nat.le_refl _⟩, ⟨by (with_reducible repeat (first | refine blk_drewN ?_ _ | refine blk_drew ?_ | refine blk_alloc ?_ _)); exact BK139.out⟩, ⟨by repeat (first | (with_reducible first | exact HB.out | apply below_alloc | apply pw_below_drewN | apply below_drew1 | refine below_set ?_ GE139.out) | exact HB.out)⟩⟩
        · rw [if_neg c10] at H
          have c10b0 : decide (a1 < 0) = false := decide_eq_false c10
          clear c10
          by_cases c13 : a1 ≥ (l0.length : Int)
          · rw [if_pos c13] at H
            have c13b0 : decide ((l0.length : Int) ≤ a1) = true := decide_eq_true c13
            clear c13
            have H' := Aside0.mk H
            clear H
            have hcz14_0 : w5.cell? ⟨gb139, 0, none⟩ = some (.int .i32 a2_0) := (blk_cell BK139.out 0).trans rfl
            have hcz14_1 : w5.cell? ⟨gb139, 1, none⟩ = some (.int .i32 a2_1) := (blk_cell BK139.out 1).trans rfl
            have hcz14_2 : w5.cell? ⟨gb139, 2, none⟩ = some (.int .i32 a2_2) := (blk_cell BK139.out 2).trans rfl
            have hcz14_3 : w5.cell? ⟨gb139, 3, none⟩ = some (.int .u8 a2_3) := (blk_cell BK139.out 3).trans rfl
            have hcz14_4 : w5.cell? ⟨gb139, 4, none⟩ = some (.int .u8 a2_4) := (blk_cell BK139.out 4).trans rfl
            have hcz14_5 : w5.cell? ⟨gb139, 5, none⟩ = some (.int .u8 a2_5) := (blk_cell BK139.out 5).trans rfl
            have hcz14_6 : w5.cell? ⟨gb139, 6, none⟩ = some (.int .u8 a2_6) := (blk_cell BK139.out 6).trans rfl
            have hfz14_0 := blk_frozen BK139.out 0
            have hfz14_1 := blk_frozen BK139.out 1
            have hfz14_2 := blk_frozen BK139.out 2
            have hfz14_3 := blk_frozen BK139.out 3
            have hfz14_4 := blk_frozen BK139.out 4
            have hfz14_5 := blk_frozen BK139.out 5
            have hfz14_6 := blk_frozen BK139.out 6
            go_wp2_with (first | (go_at_call 26; (with_reducible refine (cell_Right.calls a2_0 a2_1 a2_2 a2_3 a2_4 a2_5 a2_6 true _ A8.out).mono ?_); rintro e w15 ⟨rfl, hb⟩; have n0_ := Aside0.mk (blk_below (g := gb139) (o := .cells #[.int .i32 a2_0, .int .i32 a2_1, .int .i32 a2_2, .int .u8 a2_3, .int .u8 a2_4, .int .u8 a2_5, .int .u8 a2_6] 26 (0, 0)) (by (with_reducible repeat (first | refine blk_drewN ?_ _ | refine blk_drew ?_ | refine blk_alloc ?_ _)); exact BK139.out) hb); have n1_ := Aside0.mk (below_step (by repeat (first | (with_reducible first | exact HB.out | apply below_alloc | apply pw_below_drewN | apply below_drew1 | refine below_set ?_ GE139.out) | exact HB.out)) hb); clear BK139; clear HB; have BK139 := n0_; have HB := n1_; clear n0_ n1_; (try clear hb); (try clear hb2); (try clear hk); (try clear hi)))
            go_meet
            case rel => exact ⟨_, (true), (by first | rfl | (simp; done) | (simp [*]; done)), H', ⟨by first | omega | exact Nat.le_refl _⟩, ⟨by (with_reducible repeat (first | refine blk_drewN ?_ _ | refine blk_drew ?_ | refine blk_alloc ?_ _)); exact BK139.out⟩, ⟨by repeat (first | (with_reducible first | exact HB.out | apply below_alloc | apply pw_below_drewN | apply below_drew1 | refine below_set ?_ GE139.out) | exact HB.out)⟩⟩
          · rw [if_neg c13] at H
            have c13b0 : decide ((l0.length : Int) ≤ a1) = false := decide_eq_false c13
            clear c13
            have H' := Aside0.mk H
            clear H
            have hcz16_0 : w5.cell? ⟨gb139, 0, none⟩ = some (.int .i32 a2_0) := (blk_cell BK139.out 0).trans rfl
            have hcz16_1 : w5.cell? ⟨gb139, 1, none⟩ = some (.int .i32 a2_1) := (blk_cell BK139.out 1).trans rfl
            have hcz16_2 : w5.cell? ⟨gb139, 2, none⟩ = some (.int .i32 a2_2) := (blk_cell BK139.out 2).trans rfl
            have hcz16_3 : w5.cell? ⟨gb139, 3, none⟩ = some (.int .u8 a2_3) := (blk_cell BK139.out 3).trans rfl
            have hcz16_4 : w5.cell? ⟨gb139, 4, none⟩ = some (.int .u8 a2_4) := (blk_cell BK139.out 4).trans rfl
            have hcz16_5 : w5.cell? ⟨gb139, 5, none⟩ = some (.int .u8 a2_5) := (blk_cell BK139.out 5).trans rfl
            have hcz16_6 : w5.cell? ⟨gb139, 6, none⟩ = some (.int .u8 a2_6) := (blk_cell BK139.out 6).trans rfl
            have hfz16_0 := blk_frozen BK139.out 0
            have hfz16_1 := blk_frozen BK139.out 1
            have hfz16_2 := blk_frozen BK139.out 2
            have hfz16_3 := blk_frozen BK139.out 3
            have hfz16_4 := blk_frozen BK139.out 4
            have hfz16_5 := blk_frozen BK139.out 5
            have hfz16_6 := blk_frozen BK139.out 6
            go_wp2_with (first | (go_at_call 26; (with_reducible refine (cell_Right.calls a2_0 a2_1 a2_2 a2_3 a2_4 a2_5 a2_6 true _ A8.out).mono ?_); rintro e w17 ⟨rfl, hb⟩; have n0_ := Aside0.mk (blk_below (g := gb139) (o := .cells #[.int .i32 a2_0, .int .i32 a2_1, .int .i32 a2_2, .int .u8 a2_3, .int .u8 a2_4, .int .u8 a2_5, .int .u8 a2_6] 26 (0, 0)) (by (with_reducible repeat (first | refine blk_drewN ?_ _ | refine blk_drew ?_ | refine blk_alloc ?_ _)); exact BK139.out) hb); have n1_ := Aside0.mk (below_step (by repeat (first | (with_reducible first | exact HB.out | apply below_alloc | apply pw_below_drewN | apply below_drew1 | refine below_set ?_ GE139.out) | exact HB.out)) hb); clear BK139; clear HB; have BK139 := n0_; have HB := n1_; clear n0_ n1_; (try clear hb); (try clear hb2); (try clear hk); (try clear hi); have hcz18_0 : w17.cell? ⟨gb139, 0, none⟩ = some (.int .i32 a2_0) := (blk_cell BK139.out 0).trans rfl; have hcz18_1 : w17.cell? ⟨gb139, 1, none⟩ = some (.int .i32 a2_1) := (blk_cell BK139.out 1).trans rfl; have hcz18_2 : w17.cell? ⟨gb139, 2, none⟩ = some (.int .i32 a2_2) := (blk_cell BK139.out 2).trans rfl; have hcz18_3 : w17.cell? ⟨gb139, 3, none⟩ = some (.int .u8 a2_3) := (blk_cell BK139.out 3).trans rfl; have hcz18_4 : w17.cell? ⟨gb139, 4, none⟩ = some (.int .u8 a2_4) := (blk_cell BK139.out 4).trans rfl; have hcz18_5 : w17.cell? ⟨gb139, 5, none⟩ = some (.int .u8 a2_5) := (blk_cell BK139.out 5).trans rfl; have hcz18_6 : w17.cell? ⟨gb139, 6, none⟩ = some (.int .u8 a2_6) := (blk_cell BK139.out 6).trans rfl; have hfz18_0 := blk_frozen BK139.out 0; have hfz18_1 := blk_frozen BK139.out 1; have hfz18_2 := blk_frozen BK139.out 2; have hfz18_3 := blk_frozen BK139.out 3; have hfz18_4 := blk_frozen BK139.out 4; have hfz18_5 := blk_frozen BK139.out 5; have hfz18_6 := blk_frozen BK139.out 6))
            go_meet
            case rel => exact ⟨_, (decide ((wrap64 ((l0.length : Int) - a1)) < (wrap64 (a2_3)))), (by first | rfl | (simp; done) | (simp [*]; done)), H', ⟨by first | omega | exact Nat.le_refl _⟩, ⟨by (with_reducible repeat (first | refine blk_drewN ?_ _ | refine blk_drew ?_ | refine blk_alloc ?_ _)); exact BK139.out⟩, ⟨by repeat (first | (with_reducible first | exact HB.out | apply below_alloc | apply pw_below_drewN | apply below_drew1 | refine below_set ?_ GE139.out) | exact HB.out)⟩⟩
      · replace c9 := Bool.eq_false_iff.mpr c9
        subst c9
        have H1 : (line_Put.j0 k l0 a1 true a2_0 a2_1 a2_2 a2_3 a2_4 a2_5 a2_6) = some (r1, r2) := by rw [if_neg (show ¬ (false = true) by decide)] at H; exact H
        clear H
        have H := H1
        clear H1
        have H' := Aside0.mk H
        clear H
        have hcz19_0 : w5.cell? ⟨gb139, 0, none⟩ = some (.int .i32 a2_0) := (blk_cell BK139.out 0).trans rfl
        have hcz19_1 : w5.cell? ⟨gb139, 1, none⟩ = some (.int .i32 a2_1) := (blk_cell BK139.out 1).trans rfl
        have hcz19_2 : w5.cell? ⟨gb139, 2, none⟩ = some (.int .i32 a2_2) := (blk_cell BK139.out 2).trans rfl
        have hcz19_3 : w5.cell? ⟨gb139, 3, none⟩ = some (.int .u8 a2_3) := (blk_cell BK139.out 3).trans rfl
        have hcz19_4 : w5.cell? ⟨gb139, 4, none⟩ = some (.int .u8 a2_4) := (blk_cell BK139.out 4).trans rfl
        have hcz19_5 : w5.cell? ⟨gb139, 5, none⟩ = some (.int .u8 a2_5) := (blk_cell BK139.out 5).trans rfl
        have hcz19_6 : w5.cell? ⟨gb139, 6, none⟩ = some (.int .u8 a2_6) := (blk_cell BK139.out 6).trans rfl
        have hfz19_0 := blk_frozen BK139.out 0
        have hfz19_1 := blk_frozen BK139.out 1
        have hfz19_2 := blk_frozen BK139.out 2
        have hfz19_3 := blk_frozen BK139.out 3
        have hfz19_4 := blk_frozen BK139.out 4
        have hfz19_5 := blk_frozen BK139.out 5
        have hfz19_6 := blk_frozen BK139.out 6
        go_wp2_with (first | (go_at_call 26; (with_reducible refine (cell_Right.calls a2_0 a2_1 a2_2 a2_3 a2_4 a2_5 a2_6 false _ A8.out).mono ?_); rintro e w20 ⟨rfl, hb⟩; have n0_ := Aside0.mk (blk_below (g := gb139) (o := .cells #[.int .i32 a2_0, .int .i32 a2_1, .int .i32 a2_2, .int .u8 a2_3, .int .u8 a2_4, .int .u8 a2_5, .int .u8 a2_6] 26 (0, 0)) (by (with_reducible repeat (first | refine blk_drewN ?_ _ | refine blk_drew ?_ | refine blk_alloc ?_ _)); exact BK139.out) hb); have n1_ := Aside0.mk (below_step (by repeat (first | (with_reducible first | exact HB.out | apply below_alloc | apply pw_below_drewN | apply below_drew1 | refine below_set ?_ GE139.out) | exact HB.out)) hb); clear BK139; clear HB; have BK139 := n0_; have HB := n1_; clear n0_ n1_; (try clear hb); (try clear hb2); (try clear hk); (try clear hi)))
        go_meet
        case rel => exact ⟨_, (true), (by first | rfl | (simp; done) | (simp [*]; done)), H', ⟨by first | omega | exact Nat.le_refl _⟩, ⟨by (with_reducible repeat (first | refine blk_drewN ?_ _ | refine blk_drew ?_ | refine blk_alloc ?_ _)); exact BK139.out⟩, ⟨by repeat (first | (with_reducible first | exact HB.out | apply below_alloc | apply pw_below_drewN | apply below_drew1 | refine below_set ?_ GE139.out) | exact HB.out)⟩⟩
  case rest =>
    clear HC4
    try clear c1
    try clear p2
    try clear c3
    try clear c6
    try clear c6b0
    try clear c6b1
    try clear p6
    try clear c9
    try clear c10
    try clear c10b0
    try clear c13
    try clear c13b0
    try clear hcz11_0
    try clear hcz11_1
    try clear hcz11_2
    try clear hcz11_3
    try clear hcz11_4
    try clear hcz11_5
    try clear hcz11_6
    try clear hcz14_0
    try clear hcz14_1
    try clear hcz14_2
    try clear hcz14_3
    try clear hcz14_4
    try clear hcz14_5
    try clear hcz14_6
    try clear hcz16_0
    try clear hcz16_1
    try clear hcz16_2
    try clear hcz16_3
    try clear hcz16_4
    try clear hcz16_5
    try clear hcz16_6
    try clear hcz18_0
    try clear hcz18_1
    try clear hcz18_2
    try clear hcz18_3
    try clear hcz18_4
    try clear hcz18_5
    try clear hcz18_6
    try clear hcz19_0
    try clear hcz19_1
    try clear hcz19_2
    try clear hcz19_3
    try clear hcz19_4
    try clear hcz19_5
    try clear hcz19_6
    try clear hcz7_0
    try clear hcz7_1
    try clear hcz7_2
    try clear hcz7_3
    try clear hcz7_4
    try clear hcz7_5
    try clear hcz7_6
    try clear hfz11_0
    try clear hfz11_1
    try clear hfz11_2
    try clear hfz11_3
    try clear hfz11_4
    try clear hfz11_5
    try clear hfz11_6
    try clear hfz14_0
    try clear hfz14_1
    try clear hfz14_2
    try clear hfz14_3
    try clear hfz14_4
    try clear hfz14_5
    try clear hfz14_6
    try clear hfz16_0
    try clear hfz16_1
    try clear hfz16_2
    try clear hfz16_3
    try clear hfz16_4
    try clear hfz16_5
    try clear hfz16_6
    try clear hfz18_0
    try clear hfz18_1
    try clear hfz18_2
    try clear hfz18_3
    try clear hfz18_4
    try clear hfz18_5
    try clear hfz18_6
    try clear hfz19_0
    try clear hfz19_1
    try clear hfz19_2
    try clear hfz19_3
    try clear hfz19_4
    try clear hfz19_5
    try clear hfz19_6
    try clear hfz7_0
    try clear hfz7_1
    try clear hfz7_2
    try clear hfz7_3
    try clear hfz7_4
    try clear hfz7_5
    try clear hfz7_6
    obtain ⟨kq, x35_3, rfl, HA, HJ3, BK139, HB⟩ := hcut
    cases kq with
    | zero => exact absurd HA.out (by simp [line_Put.j0])
    | succ kj3 =>
      have H := HA.out
      clear HA
      simp only [line_Put.j0] at H
      by_cases c21 : x35_3 = true
      · subst c21
        have H1 : ((cell_Cell_95.f l0).bind fun t141 => (some (t141, false))) = some (r1, r2) := by rw [if_pos rfl] at H; exact H
        clear H
        have H := H1
        clear H1
        replace H := Option.bind_eq_some_iff.mp H
        obtain ⟨t141, A220, H⟩ := H
        replace H : (some (t141, false)) = some (r1, r2) := H
        have A22 := Aside0.mk A220
        clear A220
        simp only [Option.some.injEq, Prod.mk.injEq] at H
        obtain ⟨rfl, rfl⟩ := H
        go_wp2_with (first | ((with_reducible refine gate_callee (f := 95) rfl ?_); refine goesL_ (some 37) rfl rfl Try.func95 (by kernel_rfl) rfl #[.slice A0 l0.length c0] rfl (by (try simp only [List.map_toArray, List.map_cons, List.map_nil]); first | done | rfl | (simp only [List.length_drop, List.length_take]; rfl)) ?_; (with_reducible refine (cell_Cell_95.calls _ _ l0 t141 _ ?side1 ?side2 A22.out).mono ?_); (case side1 => repeat (first | exact (Kd.C_below HR0.out HB.out) | (with_reducible refine Kd.C_alloc ?_ _) | (with_reducible refine Kd.C_drewN ?_ _) | (with_reducible refine Kd.C_drew ?_))); (case side2 => exact HC0.out); rintro e w23 ⟨v142, rfl, ho0, hb⟩; refine ⟨_, rfl, ?_⟩; have n0_ := Aside0.mk (Kd.R_lower (Kd.R_newB ho0 (g := gb139) (o := .cells #[.int .i32 a2_0, .int .i32 a2_1, .int .i32 a2_2, .int .u8 a2_3, .int .u8 a2_4, .int .u8 a2_5, .int .u8 a2_6] 26 (0, 0)) (by (with_reducible repeat (first | refine blk_drewN ?_ _ | refine blk_drew ?_ | refine blk_alloc ?_ _)); exact BK139.out)) (below_size (by repeat (first | (with_reducible first | exact HB.out | apply below_alloc | apply pw_below_drewN | apply below_drew1 | refine below_set ?_ GE139.out) | exact HB.out)))); have n1_ := Aside0.mk (blk_below (g := gb139) (o := .cells #[.int .i32 a2_0, .int .i32 a2_1, .int .i32 a2_2, .int .u8 a2_3, .int .u8 a2_4, .int .u8 a2_5, .int .u8 a2_6] 26 (0, 0)) (by (with_reducible repeat (first | refine blk_drewN ?_ _ | refine blk_drew ?_ | refine blk_alloc ?_ _)); exact BK139.out) hb); have n2_ := Aside0.mk (below_step (by repeat (first | (with_reducible first | exact HB.out | apply below_alloc | apply pw_below_drewN | apply below_drew1 | refine below_set ?_ GE139.out) | exact HB.out)) hb); clear BK139; clear HB; have HO143 := n0_; have BK139 := n1_; have HB := n2_; clear n0_ n1_ n2_; (try clear hb); (try clear hb2); (try clear hk); (try clear hi); (try clear ho0)))
        go_ret2
        exact ⟨_, by first | rfl | (simp [errW_none, errW_some] <;> rfl) | (simp [*, errW_none, errW_some] <;> rfl), by (with_reducible repeat (first | apply Kd.R_alloc | apply Kd.R_drewN | apply Kd.R_drew)); exact Kd.R_mono HO143.out (fun _ hk => trivial), by repeat (first | (with_reducible first | exact HB.out | apply below_alloc | apply pw_below_drewN | apply below_drew1 | refine below_set ?_ GE139.out) | exact HB.out)⟩
      · replace c21 := Bool.eq_false_iff.mpr c21
        subst c21
        have H1 : (if a2_3 = 2 then ((cell_Rest.f a2_0 a2_1 a2_2 a2_3 a2_4 a2_5 a2_6).bind fun bt144 => ((line_laid.f l0 a1 (([(⟨a2_0, (⟨a2_1, a2_2⟩ : S22), a2_3, (⟨a2_4, a2_5, a2_6⟩ : S24)⟩ : S26), (⟨bt144.1, (⟨bt144.2.1, bt144.2.2.1⟩ : S22), bt144.2.2.2.1, (⟨bt144.2.2.2.2.1, bt144.2.2.2.2.2.1, bt144.2.2.2.2.2.2⟩ : S24)⟩ : S26)] : List (S26)))).bind fun t154 => (some (t154, true)))) else ((line_laid.f l0 a1 (([(⟨a2_0, (⟨a2_1, a2_2⟩ : S22), a2_3, (⟨a2_4, a2_5, a2_6⟩ : S24)⟩ : S26)] : List (S26)))).bind fun t160 => (some (t160, true)))) = some (r1, r2) := by rw [if_neg (show ¬ (false = true) by decide)] at H; exact H
        clear H
        have H := H1
        clear H1
        by_cases c24 : a2_3 = 2
        · rw [if_pos c24] at H
          have c24b0 : (a2_3 == 2) = true := beq_iff_eq.mpr c24
          have c24b1 : (a2_3 != 2) = false := bne_eq_false_iff_eq.mpr c24
          clear c24
          replace H := Option.bind_eq_some_iff.mp H
          obtain ⟨⟨t144, t145, t146, t147, t148, t149, t150⟩, A250, H⟩ := H
          replace H : ((line_laid.f l0 a1 (([(⟨a2_0, (⟨a2_1, a2_2⟩ : S22), a2_3, (⟨a2_4, a2_5, a2_6⟩ : S24)⟩ : S26), (⟨t144, (⟨t145, t146⟩ : S22), t147, (⟨t148, t149, t150⟩ : S24)⟩ : S26)] : List (S26)))).bind fun t154 => (some (t154, true))) = some (r1, r2) := H
          have A25 := Aside0.mk A250
          clear A250
          obtain ⟨y151, hy151⟩ : ∃ y_ : List (S26), y_ = (([(⟨a2_0, (⟨a2_1, a2_2⟩ : S22), a2_3, (⟨a2_4, a2_5, a2_6⟩ : S24)⟩ : S26), (⟨t144, (⟨t145, t146⟩ : S22), t147, (⟨t148, t149, t150⟩ : S24)⟩ : S26)] : List (S26))) := ⟨_, rfl⟩
          replace H : ((line_laid.f l0 a1 y151).bind fun t154 => (some (t154, true))) = some (r1, r2) := by first | (rw [hy151]; with_reducible exact H) | (have H2_ := (Option.bind_some _ _).symm.trans H; rw [hy151]; with_reducible exact H2_) | (have H2_ := (Option.bind_some _ _).symm.trans H; with_reducible exact H2_) | with_reducible exact H | (rw [hy151]; exact H) | exact H
          have Ny151 := Aside0.mk hy151
          clear hy151
          replace H := Option.bind_eq_some_iff.mp H
          obtain ⟨t154, A260, H⟩ := H
          replace H : (some (t154, true)) = some (r1, r2) := H
          have A26 := Aside0.mk A260
          clear A260
          simp only [Option.some.injEq, Prod.mk.injEq] at H
          obtain ⟨rfl, rfl⟩ := H
          have hcz27_0 : wc.cell? ⟨gb139, 0, none⟩ = some (.int .i32 a2_0) := (blk_cell BK139.out 0).trans rfl
          have hcz27_1 : wc.cell? ⟨gb139, 1, none⟩ = some (.int .i32 a2_1) := (blk_cell BK139.out 1).trans rfl
          have hcz27_2 : wc.cell? ⟨gb139, 2, none⟩ = some (.int .i32 a2_2) := (blk_cell BK139.out 2).trans rfl
          have hcz27_3 : wc.cell? ⟨gb139, 3, none⟩ = some (.int .u8 a2_3) := (blk_cell BK139.out 3).trans rfl
          have hcz27_4 : wc.cell? ⟨gb139, 4, none⟩ = some (.int .u8 a2_4) := (blk_cell BK139.out 4).trans rfl
          have hcz27_5 : wc.cell? ⟨gb139, 5, none⟩ = some (.int .u8 a2_5) := (blk_cell BK139.out 5).trans rfl
          have hcz27_6 : wc.cell? ⟨gb139, 6, none⟩ = some (.int .u8 a2_6) := (blk_cell BK139.out 6).trans rfl
          have hfz27_0 := blk_frozen BK139.out 0
          have hfz27_1 := blk_frozen BK139.out 1
          have hfz27_2 := blk_frozen BK139.out 2
          have hfz27_3 := blk_frozen BK139.out 3
          have hfz27_4 := blk_frozen BK139.out 4
          have hfz27_5 := blk_frozen BK139.out 5
          have hfz27_6 := blk_frozen BK139.out 6
          try go_wp2
          have n0_ := Aside0.mk (blk_drew BK139.out)
          have n1_ := Aside0.mk (below_drew1 HB.out)
          clear BK139
          clear HB
          have BK139 := n0_
          have HB := n1_
          clear n0_ n1_
          refine start_ (n := 9) (S := fun w' => w'.cell? ⟨gb139, 0, none⟩ = some (.int .i32 a2_0) ∧ w'.cell? ⟨gb139, 1, none⟩ = some (.int .i32 a2_1) ∧ w'.cell? ⟨gb139, 2, none⟩ = some (.int .i32 a2_2) ∧ w'.cell? ⟨gb139, 3, none⟩ = some (.int .u8 a2_3) ∧ w'.cell? ⟨gb139, 4, none⟩ = some (.int .u8 a2_4) ∧ w'.cell? ⟨gb139, 5, none⟩ = some (.int .u8 a2_5) ∧ w'.cell? ⟨gb139, 6, none⟩ = some (.int .u8 a2_6)) (ds := []) #[false, false, false, false, false, false, false, false, false] (by kernel_rfl) rfl rfl ⟨(blk_cell BK139.out 0).trans rfl, (blk_cell BK139.out 1).trans rfl, (blk_cell BK139.out 2).trans rfl, (blk_cell BK139.out 3).trans rfl, (blk_cell BK139.out 4).trans rfl, (blk_cell BK139.out 5).trans rfl, (blk_cell BK139.out 6).trans rfl⟩ (fun hHeld => ?_); refine with_tabW line_Put.tab4 line_Put.bits4 (fun HT_ HW_ => ?_)
          generalize wc.drew = w28 at BK139 HB hHeld ⊢
          refine pure_ (i := 0) (N := some 41) (v := ?_) (a' := ?_) #[true, false, false, false, false, false, false, false, false] rfl rfl (any_of HT_.out (by kernel_rfl)) (fun _ _ _ h => h) (Or.inl ⟨by rfl, ?_⟩) ?_ ?_
          rotate_left
          · intro w'
            go_simp
            with_reducible rfl
          rotate_left
          · simp only [Act.put, List.setIfInBounds_toArray, List.set_cons_zero, List.set_cons_succ, i64_w, i32_w]
            rfl
          refine pure_ (i := 1) (N := some 42) (v := ?_) (a' := ?_) #[true, true, false, false, false, false, false, false, false] rfl rfl (any_of HT_.out (by kernel_rfl)) (fun _ _ _ h => h) (Or.inl ⟨by rfl, ?_⟩) ?_ ?_
          rotate_left
          · intro w'
            go_simp
            with_reducible rfl
          rotate_left
          · simp only [Act.put, List.setIfInBounds_toArray, List.set_cons_zero, List.set_cons_succ, i64_w, i32_w]
            rfl
          refine take_ (i := 2) (N := some 43) (v := ?_) (a' := ?_) #[true, true, true, false, false, false, false, false, false] rfl rfl (take_ofW HT_.out HW_.out (by kernel_rfl)) (fun _ _ _ h => h) (Or.inl ⟨by rfl, ?_⟩) hHeld ?_ ?_
          rotate_left
          · rintro w' ⟨s0, s1, s2, s3, s4, s5, s6⟩
            go_simp
            with_reducible rfl
          rotate_left
          · simp only [Act.put, List.setIfInBounds_toArray, List.set_cons_zero, List.set_cons_succ, i64_w, i32_w]
            rfl
          refine take_ (i := 3) (N := some 44) (v := ?_) (a' := ?_) #[true, true, true, true, false, false, false, false, false] rfl rfl (take_ofW HT_.out HW_.out (by kernel_rfl)) (fun _ _ _ h => h) (Or.inl ⟨by rfl, ?_⟩) hHeld ?_ ?_
          rotate_left
          · rintro w' ⟨s0, s1, s2, s3, s4, s5, s6⟩
            go_simp
            with_reducible rfl
          rotate_left
          · simp only [Act.put, List.setIfInBounds_toArray, List.set_cons_zero, List.set_cons_succ, i64_w, i32_w]
            rfl
          refine one_ (i := 4) (N := some 45) #[true, true, true, true, true, false, false, false, false] rfl rfl (one_of HT_.out (by kernel_rfl)) (by decide) (fun K hK => ?_)
          refine goes_ Try.func23 (by kernel_rfl) rfl #[.agg #[.int .i32 a2_0, .int .i32 a2_1, .int .i32 a2_2, .int .u8 a2_3, .int .u8 a2_4, .int .u8 a2_5, .int .u8 a2_6]] (by rfl) rfl rfl (by (try simp only [List.map_toArray, List.map_cons, List.map_nil]); first | done | rfl | (simp only [List.length_drop, List.length_take]; rfl)) ?_
          with_reducible refine (cell_Rest.calls a2_0 a2_1 a2_2 a2_3 a2_4 a2_5 a2_6 t144 t145 t146 t147 t148 t149 t150 _ A25.out).mono ?_
          rintro e w29 ⟨rfl, hb⟩
          refine ⟨_, rfl, ?_⟩
          have n0_ := Aside0.mk (blk_below (g := gb139) (o := .cells #[.int .i32 a2_0, .int .i32 a2_1, .int .i32 a2_2, .int .u8 a2_3, .int .u8 a2_4, .int .u8 a2_5, .int .u8 a2_6] 26 (0, 0)) (by (with_reducible repeat (first | refine blk_drewN ?_ _ | refine blk_drew ?_ | refine blk_alloc ?_ _)); exact BK139.out) hb)
          have n1_ := Aside0.mk (below_step (by repeat (first | (with_reducible first | exact HB.out | apply below_alloc | apply pw_below_drewN | apply below_drew1 | refine below_set ?_ GE139.out) | exact HB.out)) hb)
          clear BK139
          clear HB
          have BK139 := n0_
          have HB := n1_
          clear n0_ n1_
          (try clear hb)
          (try clear hb2)
          (try clear hk)
          (try clear hi)
          refine hK.out _ _ ⟨(blk_cell BK139.out 0).trans rfl, (blk_cell BK139.out 1).trans rfl, (blk_cell BK139.out 2).trans rfl, (blk_cell BK139.out 3).trans rfl, (blk_cell BK139.out 4).trans rfl, (blk_cell BK139.out 5).trans rfl, (blk_cell BK139.out 6).trans rfl⟩ (fun hHeld => ?_)
          clear hK K
          refine norm_ (a' := ?_) ?_ ?_
          rotate_left
          · show Act.put _ (some 45) _ = _
            simp only [Act.put, List.setIfInBounds_toArray, List.set_cons_zero, List.set_cons_succ, i64_w, i32_w]
            rfl
          refine one_ (i := 5) (N := some 46) #[true, true, true, true, true, true, false, false, false] rfl rfl (one_of HT_.out (by kernel_rfl)) (by decide) (fun K hK => ?_)
          refine Kd.R_lit_step k26 _ 26 ?hg (N := 46) ?hd (xs := ([(⟨a2_0, (⟨a2_1, a2_2⟩ : S22), a2_3, (⟨a2_4, a2_5, a2_6⟩ : S24)⟩ : S26), (⟨t144, (⟨t145, t146⟩ : S22), t147, (⟨t148, t149, t150⟩ : S24)⟩ : S26)] : List (S26))) (inner := [.int .i32 a2_0, .int .i32 a2_1, .int .i32 a2_2, .int .u8 a2_3, .int .u8 a2_4, .int .u8 a2_5, .int .u8 a2_6, .int .i32 t144, .int .i32 t145, .int .i32 t146, .int .u8 t147, .int .u8 t148, .int .u8 t149, .int .u8 t150]) (ok := fun _ => True) (okp := fun _ => True) ?hr ?hp (fun _ hk => hk) trivial (Below.refl _ _) (Nat.le_refl _) (by simp) ?_; (case hd => rfl); (case hg => rfl); (case hr => first | (go_simp; done) | (go_simp; rfl)); (case hp => exact (Reps.c7 (show Kd.M k26 _ _ _ (⟨a2_0, (⟨a2_1, a2_2⟩ : S22), a2_3, (⟨a2_4, a2_5, a2_6⟩ : S24)⟩ : S26) [.int .i32 a2_0, .int .i32 a2_1, .int .i32 a2_2, .int .u8 a2_3, .int .u8 a2_4, .int .u8 a2_5, .int .u8 a2_6] from (k26_mkM _ _ _ (⟨a2_0, (⟨a2_1, a2_2⟩ : S22), a2_3, (⟨a2_4, a2_5, a2_6⟩ : S24)⟩ : S26) )) (Reps.c7 (show Kd.M k26 _ _ _ (⟨t144, (⟨t145, t146⟩ : S22), t147, (⟨t148, t149, t150⟩ : S24)⟩ : S26) [.int .i32 t144, .int .i32 t145, .int .i32 t146, .int .u8 t147, .int .u8 t148, .int .u8 t149, .int .u8 t150] from (k26_mkM _ _ _ (⟨t144, (⟨t145, t146⟩ : S22), t147, (⟨t148, t149, t150⟩ : S24)⟩ : S26) )) (Reps.none _ _))))
          intro v152 w30 ho31 hb hg_ hnew_
          clear hg_ hnew_
          (first | rw [← Ny151.out] at ho31 | (simp only [Int.reduceToNat] at ho31; rw [← Ny151.out] at ho31))
          have n0_ := Aside0.mk (Kd.R_lower (Kd.R_newB ho31 (g := gb139) (o := .cells #[.int .i32 a2_0, .int .i32 a2_1, .int .i32 a2_2, .int .u8 a2_3, .int .u8 a2_4, .int .u8 a2_5, .int .u8 a2_6] 26 (0, 0)) (by (with_reducible repeat (first | refine blk_drewN ?_ _ | refine blk_drew ?_ | refine blk_alloc ?_ _)); exact BK139.out)) (below_size (by repeat (first | (with_reducible first | exact HB.out | apply below_alloc | apply pw_below_drewN | apply below_drew1 | refine below_set ?_ GE139.out) | exact HB.out))))
          have n1_ := Aside0.mk (blk_below (g := gb139) (o := .cells #[.int .i32 a2_0, .int .i32 a2_1, .int .i32 a2_2, .int .u8 a2_3, .int .u8 a2_4, .int .u8 a2_5, .int .u8 a2_6] 26 (0, 0)) (by (with_reducible repeat (first | refine blk_drewN ?_ _ | refine blk_drew ?_ | refine blk_alloc ?_ _)); exact BK139.out) hb)
          have n2_ := Aside0.mk (below_step (by repeat (first | (with_reducible first | exact HB.out | apply below_alloc | apply pw_below_drewN | apply below_drew1 | refine below_set ?_ GE139.out) | exact HB.out)) hb)
          clear BK139
          clear HB
          have HO153 := n0_
          have BK139 := n1_
          have HB := n2_
          clear n0_ n1_ n2_
          clear hb ho31
          obtain ⟨Ao32, co32, eo32⟩ := Kd.R_slice HO153.out
          (first | subst eo32 | (injection eo32 with f1_ f2_ f3_; have f4_ := f1_.symm; have f5_ := f3_.symm; clear f1_ f2_ f3_; subst f4_; subst f5_))
          refine hK.out _ _ ⟨(blk_cell BK139.out 0).trans rfl, (blk_cell BK139.out 1).trans rfl, (blk_cell BK139.out 2).trans rfl, (blk_cell BK139.out 3).trans rfl, (blk_cell BK139.out 4).trans rfl, (blk_cell BK139.out 5).trans rfl, (blk_cell BK139.out 6).trans rfl⟩ (fun hHeld => ?_)
          clear hK K
          refine norm_ (a' := ?_) ?_ ?_
          rotate_left
          · show Act.put _ (some 46) _ = _
            simp only [Act.put, List.setIfInBounds_toArray, List.set_cons_zero, List.set_cons_succ, i64_w, i32_w]
            rfl
          refine one_ (i := 6) (N := some 47) #[true, true, true, true, true, true, true, false, false] rfl rfl (one_of HT_.out (by kernel_rfl)) (by decide) (fun K hK => ?_)
          refine goes_ Try.func96 (by kernel_rfl) rfl #[.slice A0 l0.length c0, .int .i64 a1, .slice Ao32 y151.length co32] (by rfl) rfl rfl (by (try simp only [List.map_toArray, List.map_cons, List.map_nil]); first | done | rfl | (simp only [List.length_drop, List.length_take]; rfl)) ?_
          with_reducible refine (line_laid.calls _ _ l0 a1 _ _ y151 t154 _ ?side1 ?side2 ?side3 ?side4 A26.out).mono ?_
          (case side1 => repeat (first | exact (Kd.C_below HR0.out HB.out) | (with_reducible refine Kd.C_alloc ?_ _) | (with_reducible refine Kd.C_drewN ?_ _) | (with_reducible refine Kd.C_drew ?_)))
          (case side2 => exact HC0.out)
          (case side3 => repeat (first | exact (Kd.R_reads' HO153.out).2.2 | (with_reducible refine Kd.C_alloc ?_ _) | (with_reducible refine Kd.C_drewN ?_ _) | (with_reducible refine Kd.C_drew ?_)))
          (case side4 => exact (Kd.R_reads' HO153.out).2.1)
          rintro e w33 ⟨v155, rfl, ho0, hb⟩
          refine ⟨_, rfl, ?_⟩
          have n0_ := Aside0.mk (Kd.R_elder' (by (with_reducible repeat (first | apply Kd.R_alloc | apply Kd.R_drewN | apply Kd.R_drew)); exact HO153.out) (Kd.R_base ho0) hb)
          have n1_ := Aside0.mk (Kd.R_lower (Kd.R_newB (Kd.R_new' ho0 (Kd.R_lt (by (with_reducible repeat (first | apply Kd.R_alloc | apply Kd.R_drewN | apply Kd.R_drew)); exact HO153.out))) (g := gb139) (o := .cells #[.int .i32 a2_0, .int .i32 a2_1, .int .i32 a2_2, .int .u8 a2_3, .int .u8 a2_4, .int .u8 a2_5, .int .u8 a2_6] 26 (0, 0)) (by (with_reducible repeat (first | refine blk_drewN ?_ _ | refine blk_drew ?_ | refine blk_alloc ?_ _)); exact BK139.out)) (below_size (by repeat (first | (with_reducible first | exact HB.out | apply below_alloc | apply pw_below_drewN | apply below_drew1 | refine below_set ?_ GE139.out) | exact HB.out))))
          have n2_ := Aside0.mk (blk_below (g := gb139) (o := .cells #[.int .i32 a2_0, .int .i32 a2_1, .int .i32 a2_2, .int .u8 a2_3, .int .u8 a2_4, .int .u8 a2_5, .int .u8 a2_6] 26 (0, 0)) (by (with_reducible repeat (first | refine blk_drewN ?_ _ | refine blk_drew ?_ | refine blk_alloc ?_ _)); exact BK139.out) hb)
          have n3_ := Aside0.mk (below_step (by repeat (first | (with_reducible first | exact HB.out | apply below_alloc | apply pw_below_drewN | apply below_drew1 | refine below_set ?_ GE139.out) | exact HB.out)) hb)
          clear HO153
          clear BK139
          clear HB
          have HO153 := n0_
          have HO156 := n1_
          have BK139 := n2_
          have HB := n3_
          clear n0_ n1_ n2_ n3_
          (try clear hb)
          (try clear hb2)
          (try clear hk)
          (try clear hi)
          (try clear ho0)
          refine hK.out _ _ ⟨(blk_cell BK139.out 0).trans rfl, (blk_cell BK139.out 1).trans rfl, (blk_cell BK139.out 2).trans rfl, (blk_cell BK139.out 3).trans rfl, (blk_cell BK139.out 4).trans rfl, (blk_cell BK139.out 5).trans rfl, (blk_cell BK139.out 6).trans rfl⟩ (fun hHeld => ?_)
          clear hK K
          refine norm_ (a' := ?_) ?_ ?_
          rotate_left
          · show Act.put _ (some 47) _ = _
            simp only [Act.put, List.setIfInBounds_toArray, List.set_cons_zero, List.set_cons_succ, i64_w, i32_w]
            rfl
          refine pure_ (i := 7) (N := some 6) (v := ?_) (a' := ?_) #[true, true, true, true, true, true, true, true, false] rfl rfl (any_of HT_.out (by kernel_rfl)) (fun _ _ _ h => h) (Or.inl ⟨by rfl, ?_⟩) ?_ ?_
          rotate_left
          · intro w'
            go_simp
            with_reducible rfl
          rotate_left
          · simp only [Act.put, List.setIfInBounds_toArray, List.set_cons_zero, List.set_cons_succ, i64_w, i32_w]
            rfl
          refine pure_ (i := 8) (N := some 7) (v := ?_) (a' := ?_) #[true, true, true, true, true, true, true, true, true] rfl rfl (any_of HT_.out (by kernel_rfl)) (fun _ _ _ h => h) (Or.inl ⟨by rfl, ?_⟩) ?_ ?_
          rotate_left
          · intro w'
            go_simp
            with_reducible rfl
          rotate_left
          · simp only [Act.put, List.setIfInBounds_toArray, List.set_cons_zero, List.set_cons_succ, i64_w, i32_w]
            rfl
          refine done_ (done_of HT_.out (by kernel_rfl)) ?_
          try go_wp2
          go_ret2
          exact ⟨_, by first | rfl | (simp [errW_none, errW_some] <;> rfl) | (simp [*, errW_none, errW_some] <;> rfl), by (with_reducible repeat (first | apply Kd.R_alloc | apply Kd.R_drewN | apply Kd.R_drew)); exact Kd.R_mono HO156.out (fun _ hk => trivial), by repeat (first | (with_reducible first | exact HB.out | apply below_alloc | apply pw_below_drewN | apply below_drew1 | refine below_set ?_ GE139.out) | exact HB.out)⟩
        · rw [if_neg c24] at H
          have c24b0 : (a2_3 == 2) = false := beq_eq_false_iff_ne.mpr c24
          have c24b1 : (a2_3 != 2) = true := bne_iff_ne.mpr c24
          obtain ⟨y157, hy157⟩ : ∃ y_ : List (S26), y_ = (([(⟨a2_0, (⟨a2_1, a2_2⟩ : S22), a2_3, (⟨a2_4, a2_5, a2_6⟩ : S24)⟩ : S26)] : List (S26))) := ⟨_, rfl⟩
          replace H : ((line_laid.f l0 a1 y157).bind fun t160 => (some (t160, true))) = some (r1, r2) := by first | (rw [hy157]; with_reducible exact H) | (have H2_ := (Option.bind_some _ _).symm.trans H; rw [hy157]; with_reducible exact H2_) | (have H2_ := (Option.bind_some _ _).symm.trans H; with_reducible exact H2_) | with_reducible exact H | (rw [hy157]; exact H) | exact H
          have Ny157 := Aside0.mk hy157
          clear hy157
          replace H := Option.bind_eq_some_iff.mp H
          obtain ⟨t160, A340, H⟩ := H
          replace H : (some (t160, true)) = some (r1, r2) := H
          have A34 := Aside0.mk A340
          clear A340
          simp only [Option.some.injEq, Prod.mk.injEq] at H
          obtain ⟨rfl, rfl⟩ := H
          have hcz35_0 : wc.cell? ⟨gb139, 0, none⟩ = some (.int .i32 a2_0) := (blk_cell BK139.out 0).trans rfl
          have hcz35_1 : wc.cell? ⟨gb139, 1, none⟩ = some (.int .i32 a2_1) := (blk_cell BK139.out 1).trans rfl
          have hcz35_2 : wc.cell? ⟨gb139, 2, none⟩ = some (.int .i32 a2_2) := (blk_cell BK139.out 2).trans rfl
          have hcz35_3 : wc.cell? ⟨gb139, 3, none⟩ = some (.int .u8 a2_3) := (blk_cell BK139.out 3).trans rfl
          have hcz35_4 : wc.cell? ⟨gb139, 4, none⟩ = some (.int .u8 a2_4) := (blk_cell BK139.out 4).trans rfl
          have hcz35_5 : wc.cell? ⟨gb139, 5, none⟩ = some (.int .u8 a2_5) := (blk_cell BK139.out 5).trans rfl
          have hcz35_6 : wc.cell? ⟨gb139, 6, none⟩ = some (.int .u8 a2_6) := (blk_cell BK139.out 6).trans rfl
          have hfz35_0 := blk_frozen BK139.out 0
          have hfz35_1 := blk_frozen BK139.out 1
          have hfz35_2 := blk_frozen BK139.out 2
          have hfz35_3 := blk_frozen BK139.out 3
          have hfz35_4 := blk_frozen BK139.out 4
          have hfz35_5 := blk_frozen BK139.out 5
          have hfz35_6 := blk_frozen BK139.out 6
          go_wp2_with (first | ((with_reducible refine gate_dst (N := 51) rfl ?_); (try (refine gate_guard (by rfl) ?_; dsimp only)); refine Kd.R_lit k26 _ 26 ?hg (N := 51) ?hd (xs := ([(⟨a2_0, (⟨a2_1, a2_2⟩ : S22), a2_3, (⟨a2_4, a2_5, a2_6⟩ : S24)⟩ : S26)] : List (S26))) (inner := [.int .i32 a2_0, .int .i32 a2_1, .int .i32 a2_2, .int .u8 a2_3, .int .u8 a2_4, .int .u8 a2_5, .int .u8 a2_6]) (ok := fun _ => True) (okp := fun _ => True) ?hr ?hp (fun _ hk => hk) trivial (Below.refl _ _) (Nat.le_refl _) (by simp) ?_; (case hd => rfl); (case hg => rfl); (case hr => first | (go_simp; done) | (go_simp; rfl)); (case hp => exact (Reps.c7 (show Kd.M k26 _ _ _ (⟨a2_0, (⟨a2_1, a2_2⟩ : S22), a2_3, (⟨a2_4, a2_5, a2_6⟩ : S24)⟩ : S26) [.int .i32 a2_0, .int .i32 a2_1, .int .i32 a2_2, .int .u8 a2_3, .int .u8 a2_4, .int .u8 a2_5, .int .u8 a2_6] from (k26_mkM _ _ _ (⟨a2_0, (⟨a2_1, a2_2⟩ : S22), a2_3, (⟨a2_4, a2_5, a2_6⟩ : S24)⟩ : S26) )) (Reps.none _ _))); intro v158 w36 ho37 hb hg_ hnew_; clear hg_ hnew_; (first | rw [← Ny157.out] at ho37 | (simp only [Int.reduceToNat] at ho37; rw [← Ny157.out] at ho37)); have n0_ := Aside0.mk (Kd.R_lower (Kd.R_newB ho37 (g := gb139) (o := .cells #[.int .i32 a2_0, .int .i32 a2_1, .int .i32 a2_2, .int .u8 a2_3, .int .u8 a2_4, .int .u8 a2_5, .int .u8 a2_6] 26 (0, 0)) (by (with_reducible repeat (first | refine blk_drewN ?_ _ | refine blk_drew ?_ | refine blk_alloc ?_ _)); exact BK139.out)) (below_size (by repeat (first | (with_reducible first | exact HB.out | apply below_alloc | apply pw_below_drewN | apply below_drew1 | refine below_set ?_ GE139.out) | exact HB.out)))); have n1_ := Aside0.mk (blk_below (g := gb139) (o := .cells #[.int .i32 a2_0, .int .i32 a2_1, .int .i32 a2_2, .int .u8 a2_3, .int .u8 a2_4, .int .u8 a2_5, .int .u8 a2_6] 26 (0, 0)) (by (with_reducible repeat (first | refine blk_drewN ?_ _ | refine blk_drew ?_ | refine blk_alloc ?_ _)); exact BK139.out) hb); have n2_ := Aside0.mk (below_step (by repeat (first | (with_reducible first | exact HB.out | apply below_alloc | apply pw_below_drewN | apply below_drew1 | refine below_set ?_ GE139.out) | exact HB.out)) hb); clear BK139; clear HB; have HO159 := n0_; have BK139 := n1_; have HB := n2_; clear n0_ n1_ n2_; clear hb ho37; obtain ⟨Ao38, co38, eo38⟩ := Kd.R_slice HO159.out; subst eo38) | ((with_reducible refine gate_callee (f := 96) rfl ?_); refine goesL_ (some 52) rfl rfl Try.func96 (by kernel_rfl) rfl #[.slice A0 l0.length c0, .int .i64 a1, .slice Ao38 y157.length co38] rfl (by (try simp only [List.map_toArray, List.map_cons, List.map_nil]); first | done | rfl | (simp only [List.length_drop, List.length_take]; rfl)) ?_; (with_reducible refine (line_laid.calls _ _ l0 a1 _ _ y157 t160 _ ?side1 ?side2 ?side3 ?side4 A34.out).mono ?_); (case side1 => repeat (first | exact (Kd.C_below HR0.out HB.out) | (with_reducible refine Kd.C_alloc ?_ _) | (with_reducible refine Kd.C_drewN ?_ _) | (with_reducible refine Kd.C_drew ?_))); (case side2 => exact HC0.out); (case side3 => repeat (first | exact (Kd.R_reads' HO159.out).2.2 | (with_reducible refine Kd.C_alloc ?_ _) | (with_reducible refine Kd.C_drewN ?_ _) | (with_reducible refine Kd.C_drew ?_))); (case side4 => exact (Kd.R_reads' HO159.out).2.1); rintro e w39 ⟨v161, rfl, ho0, hb⟩; refine ⟨_, rfl, ?_⟩; have n0_ := Aside0.mk (Kd.R_elder' (by (with_reducible repeat (first | apply Kd.R_alloc | apply Kd.R_drewN | apply Kd.R_drew)); exact HO159.out) (Kd.R_base ho0) hb); have n1_ := Aside0.mk (Kd.R_lower (Kd.R_newB (Kd.R_new' ho0 (Kd.R_lt (by (with_reducible repeat (first | apply Kd.R_alloc | apply Kd.R_drewN | apply Kd.R_drew)); exact HO159.out))) (g := gb139) (o := .cells #[.int .i32 a2_0, .int .i32 a2_1, .int .i32 a2_2, .int .u8 a2_3, .int .u8 a2_4, .int .u8 a2_5, .int .u8 a2_6] 26 (0, 0)) (by (with_reducible repeat (first | refine blk_drewN ?_ _ | refine blk_drew ?_ | refine blk_alloc ?_ _)); exact BK139.out)) (below_size (by repeat (first | (with_reducible first | exact HB.out | apply below_alloc | apply pw_below_drewN | apply below_drew1 | refine below_set ?_ GE139.out) | exact HB.out)))); have n2_ := Aside0.mk (blk_below (g := gb139) (o := .cells #[.int .i32 a2_0, .int .i32 a2_1, .int .i32 a2_2, .int .u8 a2_3, .int .u8 a2_4, .int .u8 a2_5, .int .u8 a2_6] 26 (0, 0)) (by (with_reducible repeat (first | refine blk_drewN ?_ _ | refine blk_drew ?_ | refine blk_alloc ?_ _)); exact BK139.out) hb); have n3_ := Aside0.mk (below_step (by repeat (first | (with_reducible first | exact HB.out | apply below_alloc | apply pw_below_drewN | apply below_drew1 | refine below_set ?_ GE139.out) | exact HB.out)) hb); clear HO159; clear BK139; clear HB; have HO159 := n0_; have HO162 := n1_; have BK139 := n2_; have HB := n3_; clear n0_ n1_ n2_ n3_; (try clear hb); (try clear hb2); (try clear hk); (try clear hi); (try clear ho0)))
          go_ret2
          exact ⟨_, by first | rfl | (simp [errW_none, errW_some] <;> rfl) | (simp [*, errW_none, errW_some] <;> rfl), by (with_reducible repeat (first | apply Kd.R_alloc | apply Kd.R_drewN | apply Kd.R_drew)); exact Kd.R_mono HO162.out (fun _ hk => trivial), by repeat (first | (with_reducible first | exact HB.out | apply below_alloc | apply pw_below_drewN | apply below_drew1 | refine below_set ?_ GE139.out) | exact HB.out)⟩

/-! ### cell_Cell_97: function 97 -/
def cell_Cell_97.l0 : Nat → List (S26) → List (S26) → Int → Int → Option (Bool)
  | 0, _, _, _, _ => none
  | k + 1, x0, x1, x12, x13 => if x13 < x12 then (if 0 ≤ x13 then (if x13 < (x0.length : Int) then (if x13 < (x1.length : Int) then (if (!(((rd_T26 x0 x13).f0) == ((rd_T26 x1 x13).f0)) || ((!(((rd_T26 x0 x13).f1.f0) == ((rd_T26 x1 x13).f1.f0)) || (!(((rd_T26 x0 x13).f1.f1) == ((rd_T26 x1 x13).f1.f1)))) || (!(((rd_T26 x0 x13).f2) == ((rd_T26 x1 x13).f2)) || ((!(((rd_T26 x0 x13).f3.f0) == ((rd_T26 x1 x13).f3.f0)) || (!(((rd_T26 x0 x13).f3.f1) == ((rd_T26 x1 x13).f3.f1)) || (!(((rd_T26 x0 x13).f3.f2) == ((rd_T26 x1 x13).f3.f2))))))))) = true then (some false) else (cell_Cell_97.l0 k x0 x1 x12 (wrap64 (x13 + 1)))) else (none)) else (none)) else (none)) else (some true)
def cell_Cell_97.f (k : Nat) (l0 : List (S26)) (l1 : List (S26)) : Option (Bool) := if (l0.length : Int) = (l1.length : Int) then (cell_Cell_97.l0 k l0 l1 (l0.length : Int) 0) else (some false)
theorem cell_Cell_97.mono_l : ∀ k, (∀ y0 y1 y2 y3, LeO (cell_Cell_97.l0 k y0 y1 y2 y3) (cell_Cell_97.l0 (k + 1) y0 y1 y2 y3))
  | 0 => fun _ _ _ _ r h => by simp [cell_Cell_97.l0] at h
  | k + 1 => by
    have ih0 := cell_Cell_97.mono_l k
    · intro y0 y1 y2 y3
      unfold cell_Cell_97.l0
      repeat' first
      | (with_reducible exact ih0 _ _ _ _)
      | (with_reducible exact LeO.refl _)
      | (with_reducible exact LeO.none _)
      | (with_reducible refine LeO.ite ?_ ?_)
      | (with_reducible refine LeO.bind ?_ (fun _ => ?_))
      | exact ih0 _ _ _ _
      | exact LeO.none _
      | refine LeO.ite ?_ ?_
      | refine LeO.bind ?_ (fun _ => ?_)
theorem cell_Cell_97.mono : ∀ a0 a1 k, LeO (cell_Cell_97.f k a0 a1) (cell_Cell_97.f (k + 1) a0 a1) := by
  intro a0 a1 k
  have ih0 := cell_Cell_97.mono_l k
  unfold cell_Cell_97.f
  repeat' first
      | (with_reducible exact ih0 _ _ _ _)
      | (with_reducible exact LeO.refl _)
      | (with_reducible exact LeO.none _)
      | (with_reducible refine LeO.ite ?_ ?_)
      | (with_reducible refine LeO.bind ?_ (fun _ => ?_))
      | exact ih0 _ _ _ _
      | exact LeO.none _
      | refine LeO.ite ?_ ?_
      | refine LeO.bind ?_ (fun _ => ?_)
set_option maxHeartbeats 8000000 in
set_option maxRecDepth 100000 in
theorem cell_Cell_97.calls (k : Nat) (A0 : Option Addr) (c0 : Nat) (l0 : List (S26)) (A1 : Option Addr) (c1 : Nat) (l1 : List (S26)) (r : Bool) (w : World) (hr0 : Kd.C k26 w A0 l0.length l0) (hc0 : l0.length ≤ c0) (hr1 : Kd.C k26 w A1 l1.length l1) (hc1 : l1.length ≤ c1) (h : cell_Cell_97.f k l0 l1 = some r) :
    Calls Try.prog 97 #[.slice A0 l0.length c0, .slice A1 l1.length c1] w fun e w' => e = .returned (.bool r) ∧ Drawn0 w w' := by
  have hu26 := Try.underlying26
  have HR0 := Aside0.mk hr0
  have HC0 := Aside0.mk hc0
  clear hr0 hc0
  have HR1 := Aside0.mk hr1
  have HC1 := Aside0.mk hc1
  clear hr1 hc1
  have H : (if (l0.length : Int) = (l1.length : Int) then (cell_Cell_97.l0 k l0 l1 (l0.length : Int) 0) else (some false)) = some r := h
  clear h
  by_cases c3 : (l0.length : Int) = (l1.length : Int)
  · rw [if_pos c3] at H
    have c3b0 : ((l0.length : Int) == (l1.length : Int)) = true := beq_iff_eq.mpr c3
    have c3b1 : ((l0.length : Int) != (l1.length : Int)) = false := bne_eq_false_iff_eq.mpr c3
    have c3b2 : (l0.length == l1.length) = true := by first | simpa using c3 | (simp at c3 ⊢; omega)
    clear c3
    have H' := Aside0.mk H
    clear H
    go_enter Try.func97, Try.ntmps97
    go_wp2
    repeat (go_quiet (fail); try go_wp2)
    go_loopg [13] k (fun kq v13 w' => ∃ (x13_1 : Int), v13 = .int .i64 x13_1 ∧ Aside0 (cell_Cell_97.l0 kq l0 l1 (l0.length : Int) x13_1 = some r) ∧ Aside0 (kq ≤ k) ∧ Drawn0 w w')
    case atStart => exact ⟨(0), (by first | rfl | (simp; done) | (simp [*]; done)), H', ⟨Nat.le_refl _⟩, by repeat (first | exact Drawn0.refl _ | apply Drawn0.step)⟩
    case round =>
      clear H'
      try clear c1
      try clear p2
      try clear c3
      try clear c3b0
      try clear c3b1
      try clear c3b2
      obtain ⟨x13_1, rfl, HA, HK1, ⟨m1, rfl⟩⟩ := hrel
      cases gk with
      | zero => exact absurd HA.out (by simp [cell_Cell_97.l0])
      | succ k1 =>
        have H := HA.out
        clear HA
        simp only [cell_Cell_97.l0] at H
        by_cases c4 : x13_1 < (l0.length : Int)
        · rw [if_pos c4] at H
          have c4b0 : decide (x13_1 < (l0.length : Int)) = true := decide_eq_true c4
          clear c4
          by_cases c5 : 0 ≤ x13_1
          · rw [if_pos c5] at H
            have c5b0 : decide (0 ≤ x13_1) = true := decide_eq_true c5
            clear c5
            by_cases c6 : x13_1 < (l0.length : Int)
            · rw [if_pos c6] at H
              have c6b0 : decide (x13_1 < (l0.length : Int)) = true := decide_eq_true c6
              clear c6
              by_cases c7 : x13_1 < (l1.length : Int)
              · rw [if_pos c7] at H
                have c7b0 : decide (x13_1 < (l1.length : Int)) = true := decide_eq_true c7
                clear c7
                by_cases c8 : (!(((rd_T26 l0 x13_1).f0) == ((rd_T26 l1 x13_1).f0)) || ((!(((rd_T26 l0 x13_1).f1.f0) == ((rd_T26 l1 x13_1).f1.f0)) || (!(((rd_T26 l0 x13_1).f1.f1) == ((rd_T26 l1 x13_1).f1.f1)))) || (!(((rd_T26 l0 x13_1).f2) == ((rd_T26 l1 x13_1).f2)) || ((!(((rd_T26 l0 x13_1).f3.f0) == ((rd_T26 l1 x13_1).f3.f0)) || (!(((rd_T26 l0 x13_1).f3.f1) == ((rd_T26 l1 x13_1).f3.f1)) || (!(((rd_T26 l0 x13_1).f3.f2) == ((rd_T26 l1 x13_1).f3.f2))))))))) = true
                · rw [if_pos c8] at H
                  have c8b0 : (!(((rd_T26 l0 x13_1).f0) == ((rd_T26 l1 x13_1).f0)) || ((!(((rd_T26 l0 x13_1).f1.f0) == ((rd_T26 l1 x13_1).f1.f0)) || (!(((rd_T26 l0 x13_1).f1.f1) == ((rd_T26 l1 x13_1).f1.f1)))) || (!(((rd_T26 l0 x13_1).f2) == ((rd_T26 l1 x13_1).f2)) || ((!(((rd_T26 l0 x13_1).f3.f0) == ((rd_T26 l1 x13_1).f3.f0)) || (!(((rd_T26 l0 x13_1).f3.f1) == ((rd_T26 l1 x13_1).f3.f1)) || (!(((rd_T26 l0 x13_1).f3.f2) == ((rd_T26 l1 x13_1).f3.f2))))))))) = true := c8
                  clear c8
                  obtain rfl := Option.some.inj H
                  have p163 : 0 ≤ (x13_1 : Int) := of_decide_eq_true (by first | (with_reducible assumption) | assumption)
                  have q163 : x13_1 < (l0.length : Int) := of_decide_eq_true (by first | (with_reducible assumption) | assumption)
                  obtain ⟨ad163, e163, hx163_0, hx163_1, hx163_2, hx163_3, hx163_4, hx163_5, hx163_6⟩ := at_T26 HR0.out x13_1 p163 q163
                  cases e163
                  replace p163 := eq_true p163
                  replace q163 := eq_true q163
                  have p164 : 0 ≤ (x13_1 : Int) := of_decide_eq_true (by first | (with_reducible assumption) | assumption)
                  have q164 : x13_1 < (l1.length : Int) := of_decide_eq_true (by first | (with_reducible assumption) | assumption)
                  obtain ⟨ad164, e164, hx164_0, hx164_1, hx164_2, hx164_3, hx164_4, hx164_5, hx164_6⟩ := at_T26 HR1.out x13_1 p164 q164
                  cases e164
                  replace p164 := eq_true p164
                  replace q164 := eq_true q164
                  go_wp2
                  repeat (go_quiet (fail); try go_wp2)
                  go_ret
                  exact ⟨by first | rfl | (simp; done) | (simp [*]; done), by repeat (first | exact Drawn0.refl _ | apply Drawn0.step)⟩
                · rw [if_neg c8] at H
                  have c8b0 : (!(((rd_T26 l0 x13_1).f0) == ((rd_T26 l1 x13_1).f0)) || ((!(((rd_T26 l0 x13_1).f1.f0) == ((rd_T26 l1 x13_1).f1.f0)) || (!(((rd_T26 l0 x13_1).f1.f1) == ((rd_T26 l1 x13_1).f1.f1)))) || (!(((rd_T26 l0 x13_1).f2) == ((rd_T26 l1 x13_1).f2)) || ((!(((rd_T26 l0 x13_1).f3.f0) == ((rd_T26 l1 x13_1).f3.f0)) || (!(((rd_T26 l0 x13_1).f3.f1) == ((rd_T26 l1 x13_1).f3.f1)) || (!(((rd_T26 l0 x13_1).f3.f2) == ((rd_T26 l1 x13_1).f3.f2))))))))) = false := by simpa using c8
                  clear c8
                  have H' := Aside0.mk H
                  clear H
                  have p163 : 0 ≤ (x13_1 : Int) := of_decide_eq_true (by first | (with_reducible assumption) | assumption)
                  have q163 : x13_1 < (l0.length : Int) := of_decide_eq_true (by first | (with_reducible assumption) | assumption)
                  obtain ⟨ad163, e163, hx163_0, hx163_1, hx163_2, hx163_3, hx163_4, hx163_5, hx163_6⟩ := at_T26 HR0.out x13_1 p163 q163
                  cases e163
                  replace p163 := eq_true p163
                  replace q163 := eq_true q163
                  have p164 : 0 ≤ (x13_1 : Int) := of_decide_eq_true (by first | (with_reducible assumption) | assumption)
                  have q164 : x13_1 < (l1.length : Int) := of_decide_eq_true (by first | (with_reducible assumption) | assumption)
                  obtain ⟨ad164, e164, hx164_0, hx164_1, hx164_2, hx164_3, hx164_4, hx164_5, hx164_6⟩ := at_T26 HR1.out x13_1 p164 q164
                  cases e164
                  replace p164 := eq_true p164
                  replace q164 := eq_true q164
                  go_wp2
                  repeat (go_quiet (fail); try go_wp2)
                  go_roundg k1
                  case measure => have := HK1.out; omega
                  case rel => exact ⟨(wrap64 (x13_1 + 1)), (by first | rfl | (simp; done) | (simp [*]; done)), H', ⟨by have := HK1.out; omega⟩, by repeat (first | exact Drawn0.refl _ | apply Drawn0.step)⟩
              · rw [if_neg c7] at H
                exact absurd H (by simp)
            · rw [if_neg c6] at H
              exact absurd H (by simp)
          · rw [if_neg c5] at H
            exact absurd H (by simp)
        · rw [if_neg c4] at H
          have c4b0 : decide (x13_1 < (l0.length : Int)) = false := decide_eq_false c4
          clear c4
          obtain rfl := Option.some.inj H
          go_wp2
          repeat (go_quiet (fail); try go_wp2)
          go_ret
          exact ⟨by first | rfl | (simp; done) | (simp [*]; done), by repeat (first | exact Drawn0.refl _ | apply Drawn0.step)⟩
  · rw [if_neg c3] at H
    have c3b0 : ((l0.length : Int) == (l1.length : Int)) = false := beq_eq_false_iff_ne.mpr c3
    have c3b1 : ((l0.length : Int) != (l1.length : Int)) = true := bne_iff_ne.mpr c3
    have c3b2 : (l0.length == l1.length) = false := by first | simpa using c3 | (simp at c3 ⊢; omega)
    obtain rfl := Option.some.inj H
    go_enter Try.func97, Try.ntmps97
    go_wp2
    repeat (go_quiet (fail); try go_wp2)
    go_ret
    exact ⟨by first | rfl | (simp; done) | (simp [*]; done), by repeat (first | exact Drawn0.refl _ | apply Drawn0.step)⟩

/-! ### line_Same: function 38 -/
def line_Same.f (k : Nat) (l0 : List (S26)) (l1 : List (S26)) : Option (Bool) := (cell_Cell_97.f k l0 l1).bind fun t165 => (some t165)
theorem line_Same.mono : ∀ a0 a1 k, LeO (line_Same.f k a0 a1) (line_Same.f (k + 1) a0 a1) := by
  intro a0 a1 k
  unfold line_Same.f
  repeat' first
      | (with_reducible exact cell_Cell_97.mono _ _ _)
      | (with_reducible exact LeO.refl _)
      | (with_reducible exact LeO.none _)
      | (with_reducible refine LeO.ite ?_ ?_)
      | (with_reducible refine LeO.bind ?_ (fun _ => ?_))
      | exact cell_Cell_97.mono _ _ _
      | exact LeO.none _
      | refine LeO.ite ?_ ?_
      | refine LeO.bind ?_ (fun _ => ?_)
set_option maxHeartbeats 8000000 in
set_option maxRecDepth 100000 in
theorem line_Same.calls (k : Nat) (A0 : Option Addr) (c0 : Nat) (l0 : List (S26)) (A1 : Option Addr) (c1 : Nat) (l1 : List (S26)) (r : Bool) (w : World) (hr0 : Kd.C k26 w A0 l0.length l0) (hc0 : l0.length ≤ c0) (hr1 : Kd.C k26 w A1 l1.length l1) (hc1 : l1.length ≤ c1) (h : line_Same.f k l0 l1 = some r) :
    Calls Try.prog 38 #[.slice A0 l0.length c0, .slice A1 l1.length c1] w fun e w' => e = .returned (.bool r) ∧ Drawn0 w w' := by
  have HR0 := Aside0.mk hr0
  have HC0 := Aside0.mk hc0
  clear hr0 hc0
  have HR1 := Aside0.mk hr1
  have HC1 := Aside0.mk hc1
  clear hr1 hc1
  have H : ((cell_Cell_97.f k l0 l1).bind fun t165 => (some t165)) = some r := h
  clear h
  replace H := Option.bind_eq_some_iff.mp H
  obtain ⟨t165, A30, H⟩ := H
  replace H : (some t165) = some r := H
  have A3 := Aside0.mk A30
  clear A30
  obtain rfl := Option.some.inj H
  go_enter Try.func38, Try.ntmps38
  go_wp2_with (first | ((with_reducible refine gate_callee (f := 97) rfl ?_); refine goesL_ (some 7) rfl rfl Try.func97 (by kernel_rfl) rfl #[.slice A0 l0.length c0, .slice A1 l1.length c1] rfl (by (try simp only [List.map_toArray, List.map_cons, List.map_nil]); first | done | rfl | (simp only [List.length_drop, List.length_take]; rfl)) ?_; (with_reducible refine (cell_Cell_97.calls k _ _ l0 _ _ l1 t165 _ ?side1 ?side2 ?side3 ?side4 A3.out).mono ?_); (case side1 => repeat (first | exact HR0.out | (with_reducible refine Kd.C_alloc ?_ _) | (with_reducible refine Kd.C_drewN ?_ _) | (with_reducible refine Kd.C_drew ?_))); (case side2 => exact HC0.out); (case side3 => repeat (first | exact HR1.out | (with_reducible refine Kd.C_alloc ?_ _) | (with_reducible refine Kd.C_drewN ?_ _) | (with_reducible refine Kd.C_drew ?_))); (case side4 => exact HC1.out); rintro e w' ⟨rfl, ⟨nd, rfl⟩⟩; refine ⟨_, rfl, ?_⟩))
  go_ret
  exact ⟨by first | rfl | (simp; done) | (simp [*]; done), by repeat (first | exact Drawn0.refl _ | apply Drawn0.step)⟩

/-! ### line_length: function 98 -/
def line_length.f (a0 : Int) : Option (Int) := some (mn (mx a0 0) 512)
set_option maxHeartbeats 8000000 in
set_option maxRecDepth 100000 in
theorem line_length.calls (a0 : Int) (r : Int) (w : World) (h : line_length.f a0 = some r) :
    Calls Try.prog 98 #[.int .i64 a0] w fun e w' => e = .returned (.int .i64 r) ∧ Below w.heap.size w w' := by
  have HB := Aside0.mk (Below.refl w.heap.size w)
  have H : (some (mn (mx a0 0) 512)) = some r := h
  clear h
  obtain ⟨ji2, hji2⟩ : ∃ j_ : Int, (mx a0 0) = j_ := ⟨_, rfl⟩
  replace H : (some (mn (ji2) 512)) = some r := by first | (rw [hji2] at H; exact H) | (simp only [hji2] at H ⊢; exact H)
  (try (have hji2l : 0 ≤ ji2 := by (rw [← hji2]; unfold mx; (repeat' split) <;> omega)))
  (try (have hji2m : 0 ≤ ji2 := by omega))
  have hji2_ : (if a0 < 0 then 0 else a0) = ji2 := hji2
  obtain ⟨ji3, hji3⟩ : ∃ j_ : Int, (mn (ji2) 512) = j_ := ⟨_, rfl⟩
  replace H : (some ji3) = some r := by first | (rw [hji3] at H; exact H) | (simp only [hji3] at H ⊢; exact H)
  have hji3_ : (if 512 < (ji2) then 512 else (ji2)) = ji3 := hji3
  obtain rfl := Option.some.inj H
  go_enter Try.func98, Try.ntmps98
  go_wp2
  go_ret
  exact ⟨by first | rfl | (simp [errW_none, errW_some] <;> rfl) | (simp only [← hji2, ← hji3]; first | rfl | (simp [errW_none, errW_some] <;> rfl)) | (simp [*, errW_none, errW_some] <;> rfl), by repeat (first | (with_reducible first | exact HB.out | apply below_alloc | apply pw_below_drewN | apply below_drew1) | exact HB.out)⟩

end Go.Proofs.Ytblcmcdifgclcaa.PLineTwice
