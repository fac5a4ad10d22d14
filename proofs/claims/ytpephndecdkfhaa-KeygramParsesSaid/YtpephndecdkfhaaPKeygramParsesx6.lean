/- What the law KeygramParses reaches: each function with its contract. -/
import Derived.Test.YtpephndecdkfhaaPKeygramParsesx0
import Derived.Test.YtpephndecdkfhaaPKeygramParsesx1
import Derived.Test.YtpephndecdkfhaaPKeygramParsesx2
import Derived.Test.YtpephndecdkfhaaPKeygramParsesx4
import Derived.Test.YtpephndecdkfhaaPKeygramParsesx5
namespace Go.Proofs.Ytpephndecdkfhaa.PKeygramParses
open Go.RowKit Go.Proofs.YtpephndecdkfhaaW.PrintWords Go.Proofs.YtpephndecdkfhaaW.PrintLast Go.Proofs.YtpephndecdkfhaaW.PrintMore
attribute [local go_sem] isSome_setCell max2_int min2_int max_two min_two max_three min_three max_four min_four   -- for this text's walks alone
set_option linter.unusedVariables false
set_option linter.unusedSimpArgs false

/-! ### prolepsislaw14_KeygramParses: function 10 -/
def prolepsislaw14_KeygramParses.j0 : Nat → List Int → Int → Bool → Int → Int → Int → Int → Int → List (List Int) → Option (Bool)
  | 0, _, _, _, _, _, _, _, _, _ => none
  | k + 1, x0, x4, x33, x222000, x222001, x222002, x222003, x222004, x222005 => if x33 = true then (some false) else (if x4 = 0 then ((keygram_Bytes.f x222000 x222001 x222002 x222003 x222004 x222005).bind fun bt241 => ((prolepsislaw14_known.f k).bind fun t245 => (if t245 = true then (if bt241.2 = 0 then ((prolepsisref01_Same.f bt241.1 x0).bind fun t246 => (some t246)) else (some false)) else (some false)))) else ((prolepsislaw14_known.f k).bind fun t247 => (some t247)))
def prolepsislaw14_KeygramParses.f (k : Nat) (l0 : List Int) : Option (Bool) := if 0 ≤ (mn (l0.length : Int) 700) then (if (mn (l0.length : Int) 700) ≤ (l0.length : Int) then ((keygram_Parse.f (l0.take ((mn (l0.length : Int) 700) : Int).toNat)).bind fun bt212 => ((prolepsisref14_Parse.f k (l0.take ((mn (l0.length : Int) 700) : Int).toNat)).bind fun bt222 => (if bt212.2.2.2.2.2.2 = bt222.2.2.2.2.2.2 then ((prolepsislaw14_Of.f k bt212.1 bt212.2.1 bt212.2.2.1 bt212.2.2.2.1 bt212.2.2.2.2.1 bt212.2.2.2.2.2.1).bind fun bt232 => ((prolepsisref14_Same.f k bt232.1 bt232.2.1 bt232.2.2.1 bt232.2.2.2.1 bt232.2.2.2.2.1 bt232.2.2.2.2.2 bt222.1 bt222.2.1 bt222.2.2.1 bt222.2.2.2.1 bt222.2.2.2.2.1 bt222.2.2.2.2.2.1).bind fun t240 => (prolepsislaw14_KeygramParses.j0 k (l0.take ((mn (l0.length : Int) 700) : Int).toNat) bt212.2.2.2.2.2.2 (!t240) bt212.1 bt212.2.1 bt212.2.2.1 bt212.2.2.2.1 bt212.2.2.2.2.1 bt212.2.2.2.2.2.1))) else (prolepsislaw14_KeygramParses.j0 k (l0.take ((mn (l0.length : Int) 700) : Int).toNat) bt212.2.2.2.2.2.2 true bt212.1 bt212.2.1 bt212.2.2.1 bt212.2.2.2.1 bt212.2.2.2.2.1 bt212.2.2.2.2.2.1)))) else (none)) else (none)
theorem prolepsislaw14_KeygramParses.mono_l : ∀ k, (∀ y0 y1 y2 y3 y4 y5 y6 y7 y8, LeO (prolepsislaw14_KeygramParses.j0 k y0 y1 y2 y3 y4 y5 y6 y7 y8) (prolepsislaw14_KeygramParses.j0 (k + 1) y0 y1 y2 y3 y4 y5 y6 y7 y8))
  | 0 => fun _ _ _ _ _ _ _ _ _ r h => by simp [prolepsislaw14_KeygramParses.j0] at h
  | k + 1 => by
    have ih0 := prolepsislaw14_KeygramParses.mono_l k
    · intro y0 y1 y2 y3 y4 y5 y6 y7 y8
      unfold prolepsislaw14_KeygramParses.j0
      repeat' first
      | (with_reducible exact ih0 _ _ _ _ _ _ _ _ _)
      | (with_reducible exact prolepsislaw14_Of.mono _ _ _ _ _ _ _)
      | (with_reducible exact prolepsislaw14_known.mono _)
      | (with_reducible exact prolepsisref14_Parse.mono _ _)
      | (with_reducible exact prolepsisref14_Same.mono _ _ _ _ _ _ _ _ _ _ _ _ _)
      | (with_reducible exact LeO.refl _)
      | (with_reducible exact LeO.none _)
      | (with_reducible refine LeO.ite ?_ ?_)
      | (with_reducible refine LeO.bind ?_ (fun _ => ?_))
      | exact ih0 _ _ _ _ _ _ _ _ _
      | exact prolepsislaw14_Of.mono _ _ _ _ _ _ _
      | exact prolepsislaw14_known.mono _
      | exact prolepsisref14_Parse.mono _ _
      | exact prolepsisref14_Same.mono _ _ _ _ _ _ _ _ _ _ _ _ _
      | exact LeO.none _
      | refine LeO.ite ?_ ?_
      | refine LeO.bind ?_ (fun _ => ?_)
theorem prolepsislaw14_KeygramParses.mono : ∀ a0 k, LeO (prolepsislaw14_KeygramParses.f k a0) (prolepsislaw14_KeygramParses.f (k + 1) a0) := by
  intro a0 k
  have ih0 := prolepsislaw14_KeygramParses.mono_l k
  unfold prolepsislaw14_KeygramParses.f
  repeat' first
      | (with_reducible exact ih0 _ _ _ _ _ _ _ _ _)
      | (with_reducible exact prolepsislaw14_Of.mono _ _ _ _ _ _ _)
      | (with_reducible exact prolepsislaw14_known.mono _)
      | (with_reducible exact prolepsisref14_Parse.mono _ _)
      | (with_reducible exact prolepsisref14_Same.mono _ _ _ _ _ _ _ _ _ _ _ _ _)
      | (with_reducible exact LeO.refl _)
      | (with_reducible exact LeO.none _)
      | (with_reducible refine LeO.ite ?_ ?_)
      | (with_reducible refine LeO.bind ?_ (fun _ => ?_))
      | exact ih0 _ _ _ _ _ _ _ _ _
      | exact prolepsislaw14_Of.mono _ _ _ _ _ _ _
      | exact prolepsislaw14_known.mono _
      | exact prolepsisref14_Parse.mono _ _
      | exact prolepsisref14_Same.mono _ _ _ _ _ _ _ _ _ _ _ _ _
      | exact LeO.none _
      | refine LeO.ite ?_ ?_
      | refine LeO.bind ?_ (fun _ => ?_)
def prolepsislaw14_KeygramParses.T4 : Bool × List (List Nat × List Nat) := (true, [([], []), ([], []), ([0, 1], [0, 1]), ([2], [2]), ([3], [3]), ([4, 3, 3], [3, 4]), ([3], [3]), ([5, 6, 5, 3], [3, 5, 6]), ([7, 3], [3, 7]), ([3, 8], [3, 8])])
def prolepsislaw14_KeygramParses.B4 : List Nat := [0, 0, 3, 7, 15, 31, 15, 127, 255, 511]
theorem prolepsislaw14_KeygramParses.tab4 : rtab .any (opsOf Try.f10 4) = prolepsislaw14_KeygramParses.T4 := by kernel_rfl
theorem prolepsislaw14_KeygramParses.bits4 : waitsOk prolepsislaw14_KeygramParses.T4.2 prolepsislaw14_KeygramParses.B4 = true := by kernel_rfl
set_option maxHeartbeats 8000000 in
set_option maxRecDepth 100000 in
theorem prolepsislaw14_KeygramParses.calls (k : Nat) (A0 : Option Addr) (c0 : Nat) (l0 : List Int) (r : Bool) (w : World) (hr0 : Kd.C (Kd.int .u8) w A0 l0.length l0) (hc0 : l0.length ≤ c0) (h : prolepsislaw14_KeygramParses.f k l0 = some r) :
    Calls Try.prog 10 #[.slice A0 l0.length c0] w fun e w' => e = .returned (.bool r) ∧ Below w.heap.size w w' := by
  have hu66 := Try.underlying66
  have hu71 := Try.underlying71
  have HR0 := Aside0.mk hr0
  have HC0 := Aside0.mk hc0
  clear hr0 hc0
  have HB := Aside0.mk (Below.refl w.heap.size w)
  have H : (if 0 ≤ (mn (l0.length : Int) 700) then (if (mn (l0.length : Int) 700) ≤ (l0.length : Int) then ((keygram_Parse.f (l0.take ((mn (l0.length : Int) 700) : Int).toNat)).bind fun bt212 => ((prolepsisref14_Parse.f k (l0.take ((mn (l0.length : Int) 700) : Int).toNat)).bind fun bt222 => (if bt212.2.2.2.2.2.2 = bt222.2.2.2.2.2.2 then ((prolepsislaw14_Of.f k bt212.1 bt212.2.1 bt212.2.2.1 bt212.2.2.2.1 bt212.2.2.2.2.1 bt212.2.2.2.2.2.1).bind fun bt232 => ((prolepsisref14_Same.f k bt232.1 bt232.2.1 bt232.2.2.1 bt232.2.2.2.1 bt232.2.2.2.2.1 bt232.2.2.2.2.2 bt222.1 bt222.2.1 bt222.2.2.1 bt222.2.2.2.1 bt222.2.2.2.2.1 bt222.2.2.2.2.2.1).bind fun t240 => (prolepsislaw14_KeygramParses.j0 k (l0.take ((mn (l0.length : Int) 700) : Int).toNat) bt212.2.2.2.2.2.2 (!t240) bt212.1 bt212.2.1 bt212.2.2.1 bt212.2.2.2.1 bt212.2.2.2.2.1 bt212.2.2.2.2.2.1))) else (prolepsislaw14_KeygramParses.j0 k (l0.take ((mn (l0.length : Int) 700) : Int).toNat) bt212.2.2.2.2.2.2 true bt212.1 bt212.2.1 bt212.2.2.1 bt212.2.2.2.1 bt212.2.2.2.2.1 bt212.2.2.2.2.2.1)))) else (none)) else (none)) = some r := h
  clear h
  obtain ⟨ji2, hji2⟩ : ∃ j_ : Int, (mn (l0.length : Int) 700) = j_ := ⟨_, rfl⟩
  replace H : (if 0 ≤ (ji2) then (if (ji2) ≤ (l0.length : Int) then ((keygram_Parse.f (l0.take ((ji2) : Int).toNat)).bind fun bt212 => ((prolepsisref14_Parse.f k (l0.take ((ji2) : Int).toNat)).bind fun bt222 => (if bt212.2.2.2.2.2.2 = bt222.2.2.2.2.2.2 then ((prolepsislaw14_Of.f k bt212.1 bt212.2.1 bt212.2.2.1 bt212.2.2.2.1 bt212.2.2.2.2.1 bt212.2.2.2.2.2.1).bind fun bt232 => ((prolepsisref14_Same.f k bt232.1 bt232.2.1 bt232.2.2.1 bt232.2.2.2.1 bt232.2.2.2.2.1 bt232.2.2.2.2.2 bt222.1 bt222.2.1 bt222.2.2.1 bt222.2.2.2.1 bt222.2.2.2.2.1 bt222.2.2.2.2.2.1).bind fun t240 => (prolepsislaw14_KeygramParses.j0 k (l0.take ((ji2) : Int).toNat) bt212.2.2.2.2.2.2 (!t240) bt212.1 bt212.2.1 bt212.2.2.1 bt212.2.2.2.1 bt212.2.2.2.2.1 bt212.2.2.2.2.2.1))) else (prolepsislaw14_KeygramParses.j0 k (l0.take ((ji2) : Int).toNat) bt212.2.2.2.2.2.2 true bt212.1 bt212.2.1 bt212.2.2.1 bt212.2.2.2.1 bt212.2.2.2.2.1 bt212.2.2.2.2.2.1)))) else (none)) else (none)) = some r := by first | (rw [hji2] at H; exact H) | (simp only [hji2] at H ⊢; exact H)
  (try (have hji2h : ji2 ≤ 700 := by (rw [← hji2]; unfold mn; (repeat' split) <;> omega)))
  (try (have hji2g : ji2 ≤ 64 := by omega))
  (try (have hji2l : 0 ≤ ji2 := by (rw [← hji2]; unfold mn; (repeat' split) <;> omega)))
  (try (have hji2m : 0 ≤ ji2 := by omega))
  have hji2_ : (if 700 < (l0.length : Int) then 700 else (l0.length : Int)) = ji2 := hji2
  by_cases c3 : 0 ≤ (ji2)
  · rw [if_pos c3] at H
    have c3b0 := eq_true c3
    have c3b1 : decide (0 ≤ (ji2)) = true := decide_eq_true c3
    clear c3
    by_cases c4 : (ji2) ≤ (l0.length : Int)
    · rw [if_pos c4] at H
      have c4b0 := eq_true c4
      have c4b1 : decide ((ji2) ≤ (l0.length : Int)) = true := decide_eq_true c4
      clear c4
      replace H := Option.bind_eq_some_iff.mp H
      obtain ⟨⟨t212, t213, t214, t215, t216, t217, t220⟩, A50, H⟩ := H
      replace H : ((prolepsisref14_Parse.f k (l0.take ((ji2) : Int).toNat)).bind fun bt222 => (if t220 = bt222.2.2.2.2.2.2 then ((prolepsislaw14_Of.f k t212 t213 t214 t215 t216 t217).bind fun bt232 => ((prolepsisref14_Same.f k bt232.1 bt232.2.1 bt232.2.2.1 bt232.2.2.2.1 bt232.2.2.2.2.1 bt232.2.2.2.2.2 bt222.1 bt222.2.1 bt222.2.2.1 bt222.2.2.2.1 bt222.2.2.2.2.1 bt222.2.2.2.2.2.1).bind fun t240 => (prolepsislaw14_KeygramParses.j0 k (l0.take ((ji2) : Int).toNat) t220 (!t240) t212 t213 t214 t215 t216 t217))) else (prolepsislaw14_KeygramParses.j0 k (l0.take ((ji2) : Int).toNat) t220 true t212 t213 t214 t215 t216 t217))) = some r := H
      have A5 := Aside0.mk A50
      clear A50
      replace H := Option.bind_eq_some_iff.mp H
      obtain ⟨⟨t222, t223, t224, t225, t226, t227, t230⟩, A60, H⟩ := H
      replace H : (if t220 = t230 then ((prolepsislaw14_Of.f k t212 t213 t214 t215 t216 t217).bind fun bt232 => ((prolepsisref14_Same.f k bt232.1 bt232.2.1 bt232.2.2.1 bt232.2.2.2.1 bt232.2.2.2.2.1 bt232.2.2.2.2.2 t222 t223 t224 t225 t226 t227).bind fun t240 => (prolepsislaw14_KeygramParses.j0 k (l0.take ((ji2) : Int).toNat) t220 (!t240) t212 t213 t214 t215 t216 t217))) else (prolepsislaw14_KeygramParses.j0 k (l0.take ((ji2) : Int).toNat) t220 true t212 t213 t214 t215 t216 t217)) = some r := H
      have A6 := Aside0.mk A60
      clear A60
      have HC7 := Aside0.mk H
      clear H
      obtain ⟨i08, hi08, _, hsz8, _⟩ := info_parts info5
      obtain ⟨hcut8, hA8, hC8⟩ := print_take_of (P := Try.prog) (Value.int .u8) 0 27 5 .i64 Try.underlying27 hi08 hsz8 A0 c0 l0 (ji2) (of_decide_eq_true (by first | (with_reducible assumption) | assumption)) (of_decide_eq_true (by first | (with_reducible assumption) | assumption)) HC0.out
      have HR211 := Aside0.mk (Kd.C_of_reads (h1 := fun _ => rfl) (hA8 _ (Kd.reads_of_C HR0.out)))
      have HC211 := Aside0.mk hC8
      clear hA8 hC8 hi08 hsz8
      generalize hLT8 : (l0.take ((ji2) : Int).toNat) = LT8 at *
      clear hLT8
      go_enter Try.func10, Try.ntmps10
      go_upto_region 4 with (first | ((with_reducible refine gate_callee (f := 45) rfl ?_); refine goesL_ (some 16) rfl rfl Try.func45 (by kernel_rfl) rfl #[.slice A0 LT8.length c0] rfl (by (try simp only [List.map_toArray, List.map_cons, List.map_nil]); first | done | (rw [show LT8.length = (ji2).toNat from (by rw [List.length_take]; have h_ : ((ji2) : Int) ≤ (l0.length : Int) := of_decide_eq_true (by first | (with_reducible assumption) | assumption); omega)] <;> rfl) | (simp only [hji2]; rfl) | rfl | (simp only [List.length_drop, List.length_take]; rfl)) ?_; (with_reducible refine (keygram_Parse.calls _ _ LT8 t212 t213 t214 t215 t216 t217 t220 _ ?side1 ?side2 A5.out).mono ?_); (case side1 => repeat (first | exact HR211.out | (with_reducible refine Kd.C_alloc ?_ _) | (with_reducible refine Kd.C_drewN ?_ _) | (with_reducible refine Kd.C_drew ?_))); (case side2 => exact HC211.out); rintro e w9 ⟨v218, rfl, ho0, hb⟩; refine ⟨_, rfl, ?_⟩; have n0_ := Aside0.mk (Kd.N_lower (Kd.N_mono (ok' := fun k_ => True) ho0 (fun k_ hk_ => trivial)) (below_size (by repeat (first | (with_reducible first | exact HB.out | apply below_alloc | apply pw_below_drewN | apply below_drew1) | exact HB.out)))); have n1_ := Aside0.mk (below_step (by repeat (first | (with_reducible first | exact HB.out | apply below_alloc | apply pw_below_drewN | apply below_drew1) | exact HB.out)) hb); clear HB; have HO219 := n0_; have HB := n1_; clear n0_ n1_; (try clear hb); (try clear hb2); (try clear hk); (try clear hi); (try clear ho0)) | ((with_reducible refine gate_dst (N := 3) rfl ?_); refine box_event ?hg (N := 3) ?hd (cs := #[.int .u64 0, .int .u64 0, .int .i64 0, .int .i64 0, .int .u64 0, .slice none 0 0]) (t := 66) ?hr ?_; (case hd => rfl); (case hg => rfl); (case hr => first | (go_simp; done) | (go_simp; rfl)); intro gb221 hg w10 hbox hb; have n0_ := Aside0.mk (Kd.N_below (Kd.N_elderB (by (with_reducible repeat (first | apply Kd.N_alloc | apply Kd.N_drewN | apply Kd.N_drew)); exact HO219.out) gb221 (Nat.le_of_eq hg.symm)) hb); have n1_ := Aside0.mk (below_step (by repeat (first | (with_reducible first | exact HB.out | apply below_alloc | apply pw_below_drewN | apply below_drew1) | exact HB.out)) hb); have n2_ := Aside0.mk (hbox); have n3_ := Aside0.mk ((by rw [hg]; exact (below_size (by repeat (first | (with_reducible first | exact HB.out | apply below_alloc | apply pw_below_drewN | apply below_drew1) | exact HB.out))) : w.heap.size ≤ gb221)); have n4_ := Aside0.mk ((by rw [hg]; exact (below_size (by repeat (first | (with_reducible first | exact HB.out | apply below_alloc | apply pw_below_drewN | apply below_drew1) | exact HB.out))) : w.heap.size ≤ gb221)); clear HO219; clear HB; have HO219 := n0_; have HB := n1_; have BK221 := n2_; have GW221 := n3_; have GE221 := n4_; clear n0_ n1_ n2_ n3_ n4_; clear hb hbox hg; have hcz11_0 : w10.cell? ⟨gb221, 0, none⟩ = some (.int .u64 0) := (blk_cell BK221.out 0).trans rfl; have hcz11_1 : w10.cell? ⟨gb221, 1, none⟩ = some (.int .u64 0) := (blk_cell BK221.out 1).trans rfl; have hcz11_2 : w10.cell? ⟨gb221, 2, none⟩ = some (.int .i64 0) := (blk_cell BK221.out 2).trans rfl; have hcz11_3 : w10.cell? ⟨gb221, 3, none⟩ = some (.int .i64 0) := (blk_cell BK221.out 3).trans rfl; have hcz11_4 : w10.cell? ⟨gb221, 4, none⟩ = some (.int .u64 0) := (blk_cell BK221.out 4).trans rfl; have hcz11_5 : w10.cell? ⟨gb221, 5, none⟩ = some (.slice none 0 0) := (blk_cell BK221.out 5).trans rfl; have hfz11_0 := blk_frozen BK221.out 0; have hfz11_1 := blk_frozen BK221.out 1; have hfz11_2 := blk_frozen BK221.out 2; have hfz11_3 := blk_frozen BK221.out 3; have hfz11_4 := blk_frozen BK221.out 4; have hfz11_5 := blk_frozen BK221.out 5; obtain ⟨Ao12, co12, eo12⟩ := Kd.N_slice HO219.out; subst eo12) | ((with_reducible refine gate_callee (f := 46) rfl ?_); refine goesL_ (some 21) rfl rfl Try.func46 (by kernel_rfl) rfl #[.slice A0 LT8.length c0] rfl (by (try simp only [List.map_toArray, List.map_cons, List.map_nil]); first | done | (rw [show LT8.length = (ji2).toNat from (by rw [List.length_take]; have h_ : ((ji2) : Int) ≤ (l0.length : Int) := of_decide_eq_true (by first | (with_reducible assumption) | assumption); omega)] <;> rfl) | (simp only [hji2]; rfl) | rfl | (simp only [List.length_drop, List.length_take]; rfl)) ?_; (with_reducible refine (prolepsisref14_Parse.calls k _ _ LT8 t222 t223 t224 t225 t226 t227 t230 _ ?side1 ?side2 A6.out).mono ?_); (case side1 => exact Kd.C_below HR211.out (by repeat (first | (with_reducible first | exact HB.out | apply below_alloc | apply pw_below_drewN | apply below_drew1 | refine below_set ?_ GE221.out) | exact HB.out))); (case side2 => exact HC211.out); rintro e w13 ⟨v228, rfl, ho0, hb⟩; refine ⟨_, rfl, ?_⟩; have n0_ := Aside0.mk (Kd.N_elder' (by (with_reducible repeat (first | apply Kd.N_alloc | apply Kd.N_drewN | apply Kd.N_drew)); exact (Kd.N_mono (Kd.N_far (p := ⟨gb221, 5, none⟩) (Kd.N_far (p := ⟨gb221, 4, none⟩) (Kd.N_far (p := ⟨gb221, 3, none⟩) (Kd.N_far (p := ⟨gb221, 2, none⟩) (Kd.N_far (p := ⟨gb221, 1, none⟩) (Kd.N_far (p := ⟨gb221, 0, none⟩) (Kd.N_mono HO219.out (fun k_ hk => (⟨hk, hk.2⟩ : _ ∧ k_ ≠ gb221))) (fun _ hk => hk.2) (.int .u64 t212)) (fun _ hk => hk.2) (.int .u64 t213)) (fun _ hk => hk.2) (.int .i64 t214)) (fun _ hk => hk.2) (.int .i64 t215)) (fun _ hk => hk.2) (.int .u64 t216)) (fun _ hk => hk.2) (.slice Ao12 t217.length co12)) (fun _ h_ => h_.1))) (Kd.R_base ho0) hb); have n1_ := Aside0.mk (Kd.R_lower ho0 (below_size (by repeat (first | (with_reducible first | exact HB.out | apply below_alloc | apply pw_below_drewN | apply below_drew1 | refine below_set ?_ GE221.out) | exact HB.out)))); have n2_ := Aside0.mk (blk_below (g := gb221) (o := .cells #[.int .u64 t212, .int .u64 t213, .int .i64 t214, .int .i64 t215, .int .u64 t216, .slice Ao12 t217.length co12] 66 (0, 0)) (by (with_reducible repeat (first | refine blk_drewN ?_ _ | refine blk_drew ?_ | refine blk_alloc ?_ _)); refine blk_put (cs := #[.int .u64 t212, .int .u64 t213, .int .i64 t214, .int .i64 t215, .int .u64 t216, .slice none 0 0]) ?_ 5 _ rfl; (with_reducible repeat (first | refine blk_drewN ?_ _ | refine blk_drew ?_ | refine blk_alloc ?_ _)); refine blk_put (cs := #[.int .u64 t212, .int .u64 t213, .int .i64 t214, .int .i64 t215, .int .u64 0, .slice none 0 0]) ?_ 4 _ rfl; (with_reducible repeat (first | refine blk_drewN ?_ _ | refine blk_drew ?_ | refine blk_alloc ?_ _)); refine blk_put (cs := #[.int .u64 t212, .int .u64 t213, .int .i64 t214, .int .i64 0, .int .u64 0, .slice none 0 0]) ?_ 3 _ rfl; (with_reducible repeat (first | refine blk_drewN ?_ _ | refine blk_drew ?_ | refine blk_alloc ?_ _)); refine blk_put (cs := #[.int .u64 t212, .int .u64 t213, .int .i64 0, .int .i64 0, .int .u64 0, .slice none 0 0]) ?_ 2 _ rfl; (with_reducible repeat (first | refine blk_drewN ?_ _ | refine blk_drew ?_ | refine blk_alloc ?_ _)); refine blk_put (cs := #[.int .u64 t212, .int .u64 0, .int .i64 0, .int .i64 0, .int .u64 0, .slice none 0 0]) ?_ 1 _ rfl; (with_reducible repeat (first | refine blk_drewN ?_ _ | refine blk_drew ?_ | refine blk_alloc ?_ _)); refine blk_put (cs := #[.int .u64 0, .int .u64 0, .int .i64 0, .int .i64 0, .int .u64 0, .slice none 0 0]) ?_ 0 _ rfl; (with_reducible repeat (first | refine blk_drewN ?_ _ | refine blk_drew ?_ | refine blk_alloc ?_ _)); exact BK221.out) hb); have n3_ := Aside0.mk (below_step (by repeat (first | (with_reducible first | exact HB.out | apply below_alloc | apply pw_below_drewN | apply below_drew1 | refine below_set ?_ GE221.out) | exact HB.out)) hb); clear HO219; clear BK221; clear HB; have HO219 := n0_; have HO229 := n1_; have BK221 := n2_; have HB := n3_; clear n0_ n1_ n2_ n3_; (try clear hb); (try clear hb2); (try clear hk); (try clear hi); (try clear ho0)) | ((with_reducible refine gate_dst (N := 5) rfl ?_); refine box_event ?hg (N := 5) ?hd (cs := #[.int .u64 0, .int .u64 0, .int .i64 0, .int .i64 0, .int .u64 0, .slice none 0 0]) (t := 71) ?hr ?_; (case hd => rfl); (case hg => rfl); (case hr => first | (go_simp; done) | (go_simp; rfl)); intro gb231 hg w14 hbox hb; have n0_ := Aside0.mk (Kd.N_below (Kd.N_elderB (by (with_reducible repeat (first | apply Kd.N_alloc | apply Kd.N_drewN | apply Kd.N_drew)); exact HO219.out) gb231 (Nat.le_of_eq hg.symm)) hb); have n1_ := Aside0.mk (Kd.R_below (by (with_reducible repeat (first | apply Kd.R_alloc | apply Kd.R_drewN | apply Kd.R_drew)); exact HO229.out) hb); have n2_ := Aside0.mk (blk_below (g := gb221) (o := .cells #[.int .u64 t212, .int .u64 t213, .int .i64 t214, .int .i64 t215, .int .u64 t216, .slice Ao12 t217.length co12] 66 (0, 0)) (by (with_reducible repeat (first | refine blk_drewN ?_ _ | refine blk_drew ?_ | refine blk_alloc ?_ _)); exact BK221.out) hb); have n3_ := Aside0.mk (below_step (by repeat (first | (with_reducible first | exact HB.out | apply below_alloc | apply pw_below_drewN | apply below_drew1 | refine below_set ?_ GE221.out) | exact HB.out)) hb); have n4_ := Aside0.mk (hbox); have n5_ := Aside0.mk ((by rw [hg]; exact (below_size (by repeat (first | (with_reducible first | exact HB.out | apply below_alloc | apply pw_below_drewN | apply below_drew1 | refine below_set ?_ GE221.out) | exact HB.out))) : w.heap.size ≤ gb231)); have n6_ := Aside0.mk ((by rw [hg]; exact (below_size (by repeat (first | (with_reducible first | exact HB.out | apply below_alloc | apply pw_below_drewN | apply below_drew1 | refine below_set ?_ GE221.out) | exact HB.out))) : w.heap.size ≤ gb231)); have n7_ := Aside0.mk ((by rw [hg]; exact Nat.ne_of_lt (blk_lt (g := gb221) (o := .cells #[.int .u64 t212, .int .u64 t213, .int .i64 t214, .int .i64 t215, .int .u64 t216, .slice Ao12 t217.length co12] 66 (0, 0)) (by (with_reducible repeat (first | refine blk_drewN ?_ _ | refine blk_drew ?_ | refine blk_alloc ?_ _)); exact BK221.out)) : gb221 ≠ gb231)); have n8_ := Aside0.mk ((by rw [hg]; exact Nat.ne_of_gt (blk_lt (g := gb221) (o := .cells #[.int .u64 t212, .int .u64 t213, .int .i64 t214, .int .i64 t215, .int .u64 t216, .slice Ao12 t217.length co12] 66 (0, 0)) (by (with_reducible repeat (first | refine blk_drewN ?_ _ | refine blk_drew ?_ | refine blk_alloc ?_ _)); exact BK221.out)) : gb231 ≠ gb221)); clear HO219; clear HO229; clear BK221; clear HB; have HO219 := n0_; have HO229 := n1_; have BK221 := n2_; have HB := n3_; have BK231 := n4_; have GW231 := n5_; have GE231 := n6_; have NB221_231 := n7_; have NB231_221 := n8_; clear n0_ n1_ n2_ n3_ n4_ n5_ n6_ n7_ n8_; clear hb hbox hg; have hnb15 := NB231_221.out; have hnc15 := NB221_231.out; have hcz16_0 : w14.cell? ⟨gb231, 0, none⟩ = some (.int .u64 0) := (blk_cell BK231.out 0).trans rfl; have hcz16_1 : w14.cell? ⟨gb231, 1, none⟩ = some (.int .u64 0) := (blk_cell BK231.out 1).trans rfl; have hcz16_2 : w14.cell? ⟨gb231, 2, none⟩ = some (.int .i64 0) := (blk_cell BK231.out 2).trans rfl; have hcz16_3 : w14.cell? ⟨gb231, 3, none⟩ = some (.int .i64 0) := (blk_cell BK231.out 3).trans rfl; have hcz16_4 : w14.cell? ⟨gb231, 4, none⟩ = some (.int .u64 0) := (blk_cell BK231.out 4).trans rfl; have hcz16_5 : w14.cell? ⟨gb231, 5, none⟩ = some (.slice none 0 0) := (blk_cell BK231.out 5).trans rfl; have hfz16_0 := blk_frozen BK231.out 0; have hfz16_1 := blk_frozen BK231.out 1; have hfz16_2 := blk_frozen BK231.out 2; have hfz16_3 := blk_frozen BK231.out 3; have hfz16_4 := blk_frozen BK231.out 4; have hfz16_5 := blk_frozen BK231.out 5; obtain ⟨Ao17, co17, eo17⟩ := Kd.R_slice HO229.out; subst eo17))
      (try simp only [Act.put, List.setIfInBounds_toArray, List.set_cons_zero, List.set_cons_succ])
      go_cut [33] (fun v33 wc => ∃ (kq : Nat) (x33_6 : Bool), v33 = .bool x33_6 ∧ Aside0 (prolepsislaw14_KeygramParses.j0 kq LT8 t220 x33_6 t212 t213 t214 t215 t216 t217 = some r) ∧ Aside0 (kq ≤ k) ∧ Aside0 (Kd.N (Kd.slice 5 (Kd.int .u8)) 27 wc w.heap.size (fun k_ => some k_ ≠ ((.slice Ao17 t227.length co17) : Value).ownBlock ∧ k_ ≠ gb221 ∧ k_ ≠ gb231) (.slice Ao12 t217.length co12) t217) ∧ Aside0 (Kd.R Kd.string 9 wc w.heap.size (fun _ => True) (.slice Ao17 t227.length co17) t227) ∧ Aside0 (wc.heap[gb221]? = some (.cells #[.int .u64 t212, .int .u64 t213, .int .i64 t214, .int .i64 t215, .int .u64 t216, (.slice Ao12 t217.length co12)] 66 (0, 0))) ∧ Aside0 (wc.heap[gb231]? = some (.cells #[.int .u64 t222, .int .u64 t223, .int .i64 t224, .int .i64 t225, .int .u64 t226, (.slice Ao17 t227.length co17)] 71 (0, 0))) ∧ Aside0 (Below w.heap.size w wc))
      case first =>
        have H := HC7.out
        clear HC7
        by_cases c18 : t220 = t230
        · rw [if_pos c18] at H
          have c18b0 : (t220 == t230) = true := beq_iff_eq.mpr c18
          have c18b1 : (t220 != t230) = false := bne_eq_false_iff_eq.mpr c18
          clear c18
          (first | rw [c18b0] | (simp only [i64_w, i32_w]; rw [c18b0]) | skip)
          replace H := Option.bind_eq_some_iff.mp H
          obtain ⟨⟨t232, t233, t234, t235, t236, t237⟩, A190, H⟩ := H
          replace H : ((prolepsisref14_Same.f k t232 t233 t234 t235 t236 t237 t222 t223 t224 t225 t226 t227).bind fun t240 => (prolepsislaw14_KeygramParses.j0 k LT8 t220 (!t240) t212 t213 t214 t215 t216 t217)) = some r := H
          have A19 := Aside0.mk A190
          clear A190
          replace H := Option.bind_eq_some_iff.mp H
          obtain ⟨t240, A200, H⟩ := H
          replace H : (prolepsislaw14_KeygramParses.j0 k LT8 t220 (!t240) t212 t213 t214 t215 t216 t217) = some r := H
          have A20 := Aside0.mk A200
          clear A200
          have H' := Aside0.mk H
          clear H
          try go_wp2
          have n0_ : Aside0 (Kd.N (Kd.slice 5 (Kd.int .u8)) 27 ((((((w14.setCell ⟨gb231, 0, none⟩ (.int .u64 t222)).setCell ⟨gb231, 1, none⟩ (.int .u64 t223)).setCell ⟨gb231, 2, none⟩ (.int .i64 t224)).setCell ⟨gb231, 3, none⟩ (.int .i64 t225)).setCell ⟨gb231, 4, none⟩ (.int .u64 t226)).setCell ⟨gb231, 5, none⟩ (.slice Ao17 t227.length co17)) w.heap.size (fun k_ => some k_ ≠ (.slice Ao17 t227.length co17 : Value).ownBlock ∧ k_ ≠ gb221 ∧ k_ ≠ gb231) (.slice Ao12 t217.length co12) t217) := ⟨by (with_reducible repeat (first | apply Kd.N_alloc | apply Kd.N_drewN | apply Kd.N_drew)); exact Kd.N_mono (Kd.N_far (p := ⟨gb231, 5, none⟩) (Kd.N_far (p := ⟨gb231, 4, none⟩) (Kd.N_far (p := ⟨gb231, 3, none⟩) (Kd.N_far (p := ⟨gb231, 2, none⟩) (Kd.N_far (p := ⟨gb231, 1, none⟩) (Kd.N_far (p := ⟨gb231, 0, none⟩) (Kd.N_mono HO219.out (fun k_ hk => (⟨hk, hk.2⟩ : _ ∧ k_ ≠ gb231))) (fun _ hk => hk.2) (.int .u64 t222)) (fun _ hk => hk.2) (.int .u64 t223)) (fun _ hk => hk.2) (.int .i64 t224)) (fun _ hk => hk.2) (.int .i64 t225)) (fun _ hk => hk.2) (.int .u64 t226)) (fun _ hk => hk.2) (.slice Ao17 t227.length co17)) (fun _ hk => ⟨hk.1.1.2, ⟨hk.1.1.1.2, hk.1.2⟩⟩)⟩
          have n1_ : Aside0 (Kd.R Kd.string 9 ((((((w14.setCell ⟨gb231, 0, none⟩ (.int .u64 t222)).setCell ⟨gb231, 1, none⟩ (.int .u64 t223)).setCell ⟨gb231, 2, none⟩ (.int .i64 t224)).setCell ⟨gb231, 3, none⟩ (.int .i64 t225)).setCell ⟨gb231, 4, none⟩ (.int .u64 t226)).setCell ⟨gb231, 5, none⟩ (.slice Ao17 t227.length co17)) w.heap.size (fun _ => True) (.slice Ao17 t227.length co17) t227) := ⟨by (with_reducible repeat (first | apply Kd.R_alloc | apply Kd.R_drewN | apply Kd.R_drew)); exact Kd.R_mono (Kd.R_far (p := ⟨gb231, 5, none⟩) (Kd.R_far (p := ⟨gb231, 4, none⟩) (Kd.R_far (p := ⟨gb231, 3, none⟩) (Kd.R_far (p := ⟨gb231, 2, none⟩) (Kd.R_far (p := ⟨gb231, 1, none⟩) (Kd.R_far (p := ⟨gb231, 0, none⟩) (Kd.R_types HO229.out BK231.out (by decide)) (fun _ hk => hk.2) (.int .u64 t222)) (fun _ hk => hk.2) (.int .u64 t223)) (fun _ hk => hk.2) (.int .i64 t224)) (fun _ hk => hk.2) (.int .i64 t225)) (fun _ hk => hk.2) (.int .u64 t226)) (fun _ hk => hk.2) (.slice Ao17 t227.length co17)) (fun _ hk => trivial)⟩
          have n2_ : Aside0 (((((((w14.setCell ⟨gb231, 0, none⟩ (.int .u64 t222)).setCell ⟨gb231, 1, none⟩ (.int .u64 t223)).setCell ⟨gb231, 2, none⟩ (.int .i64 t224)).setCell ⟨gb231, 3, none⟩ (.int .i64 t225)).setCell ⟨gb231, 4, none⟩ (.int .u64 t226)).setCell ⟨gb231, 5, none⟩ (.slice Ao17 t227.length co17)).heap[gb221]? = some (.cells #[.int .u64 t212, .int .u64 t213, .int .i64 t214, .int .i64 t215, .int .u64 t216, .slice Ao12 t217.length co12] 66 (0, 0))) := ⟨by (with_reducible repeat (first | refine blk_drewN ?_ _ | refine blk_drew ?_ | refine blk_alloc ?_ _)); refine blk_far ?_ NB221_231.out _; (with_reducible repeat (first | refine blk_drewN ?_ _ | refine blk_drew ?_ | refine blk_alloc ?_ _)); refine blk_far ?_ NB221_231.out _; (with_reducible repeat (first | refine blk_drewN ?_ _ | refine blk_drew ?_ | refine blk_alloc ?_ _)); refine blk_far ?_ NB221_231.out _; (with_reducible repeat (first | refine blk_drewN ?_ _ | refine blk_drew ?_ | refine blk_alloc ?_ _)); refine blk_far ?_ NB221_231.out _; (with_reducible repeat (first | refine blk_drewN ?_ _ | refine blk_drew ?_ | refine blk_alloc ?_ _)); refine blk_far ?_ NB221_231.out _; (with_reducible repeat (first | refine blk_drewN ?_ _ | refine blk_drew ?_ | refine blk_alloc ?_ _)); refine blk_far ?_ NB221_231.out _; (with_reducible repeat (first | refine blk_drewN ?_ _ | refine blk_drew ?_ | refine blk_alloc ?_ _)); exact BK221.out⟩
          have n3_ : Aside0 (((((((w14.setCell ⟨gb231, 0, none⟩ (.int .u64 t222)).setCell ⟨gb231, 1, none⟩ (.int .u64 t223)).setCell ⟨gb231, 2, none⟩ (.int .i64 t224)).setCell ⟨gb231, 3, none⟩ (.int .i64 t225)).setCell ⟨gb231, 4, none⟩ (.int .u64 t226)).setCell ⟨gb231, 5, none⟩ (.slice Ao17 t227.length co17)).heap[gb231]? = some (.cells #[.int .u64 t222, .int .u64 t223, .int .i64 t224, .int .i64 t225, .int .u64 t226, .slice Ao17 t227.length co17] 71 (0, 0))) := ⟨by (with_reducible repeat (first | refine blk_drewN ?_ _ | refine blk_drew ?_ | refine blk_alloc ?_ _)); refine blk_put (cs := #[.int .u64 t222, .int .u64 t223, .int .i64 t224, .int .i64 t225, .int .u64 t226, .slice none 0 0]) ?_ 5 _ rfl; (with_reducible repeat (first | refine blk_drewN ?_ _ | refine blk_drew ?_ | refine blk_alloc ?_ _)); refine blk_put (cs := #[.int .u64 t222, .int .u64 t223, .int .i64 t224, .int .i64 t225, .int .u64 0, .slice none 0 0]) ?_ 4 _ rfl; (with_reducible repeat (first | refine blk_drewN ?_ _ | refine blk_drew ?_ | refine blk_alloc ?_ _)); refine blk_put (cs := #[.int .u64 t222, .int .u64 t223, .int .i64 t224, .int .i64 0, .int .u64 0, .slice none 0 0]) ?_ 3 _ rfl; (with_reducible repeat (first | refine blk_drewN ?_ _ | refine blk_drew ?_ | refine blk_alloc ?_ _)); refine blk_put (cs := #[.int .u64 t222, .int .u64 t223, .int .i64 0, .int .i64 0, .int .u64 0, .slice none 0 0]) ?_ 2 _ rfl; (with_reducible repeat (first | refine blk_drewN ?_ _ | refine blk_drew ?_ | refine blk_alloc ?_ _)); refine blk_put (cs := #[.int .u64 t222, .int .u64 0, .int .i64 0, .int .i64 0, .int .u64 0, .slice none 0 0]) ?_ 1 _ rfl; (with_reducible repeat (first | refine blk_drewN ?_ _ | refine blk_drew ?_ | refine blk_alloc ?_ _)); refine blk_put (cs := #[.int .u64 0, .int .u64 0, .int .i64 0, .int .i64 0, .int .u64 0, .slice none 0 0]) ?_ 0 _ rfl; (with_reducible repeat (first | refine blk_drewN ?_ _ | refine blk_drew ?_ | refine blk_alloc ?_ _)); exact BK231.out⟩
          have n4_ : Aside0 (Below w.heap.size w ((((((w14.setCell ⟨gb231, 0, none⟩ (.int .u64 t222)).setCell ⟨gb231, 1, none⟩ (.int .u64 t223)).setCell ⟨gb231, 2, none⟩ (.int .i64 t224)).setCell ⟨gb231, 3, none⟩ (.int .i64 t225)).setCell ⟨gb231, 4, none⟩ (.int .u64 t226)).setCell ⟨gb231, 5, none⟩ (.slice Ao17 t227.length co17))) := ⟨by repeat (first | (with_reducible first | exact HB.out | apply below_alloc | apply pw_below_drewN | apply below_drew1 | refine below_set ?_ GE221.out | refine below_set ?_ GE231.out) | exact HB.out)⟩
          (try clear HO219)
          (try clear HO229)
          (try clear BK221)
          (try clear BK231)
          (try clear HB)
          generalize ((((((w14.setCell ⟨gb231, 0, none⟩ (.int .u64 t222)).setCell ⟨gb231, 1, none⟩ (.int .u64 t223)).setCell ⟨gb231, 2, none⟩ (.int .i64 t224)).setCell ⟨gb231, 3, none⟩ (.int .i64 t225)).setCell ⟨gb231, 4, none⟩ (.int .u64 t226)).setCell ⟨gb231, 5, none⟩ (.slice Ao17 t227.length co17)) = w21 at n0_ n1_ n2_ n3_ n4_ ⊢
          have HO219 := n0_
          have HO229 := n1_
          have BK221 := n2_
          have BK231 := n3_
          have HB := n4_
          clear n0_ n1_ n2_ n3_ n4_
          have n0_ := Aside0.mk (Kd.N_drew HO219.out)
          have n1_ := Aside0.mk (Kd.R_drew HO229.out)
          have n2_ := Aside0.mk (blk_drew BK221.out)
          have n3_ := Aside0.mk (blk_drew BK231.out)
          have n4_ := Aside0.mk (below_drew1 HB.out)
          clear HO219
          clear HO229
          clear BK221
          clear BK231
          clear HB
          have HO219 := n0_
          have HO229 := n1_
          have BK221 := n2_
          have BK231 := n3_
          have HB := n4_
          clear n0_ n1_ n2_ n3_ n4_
          refine start_ (n := 10) (S := fun w' => w'.cell? ⟨gb221, 0, none⟩ = some (.int .u64 t212) ∧ w'.cell? ⟨gb221, 1, none⟩ = some (.int .u64 t213) ∧ w'.cell? ⟨gb221, 2, none⟩ = some (.int .i64 t214) ∧ w'.cell? ⟨gb221, 3, none⟩ = some (.int .i64 t215) ∧ w'.cell? ⟨gb221, 4, none⟩ = some (.int .u64 t216) ∧ w'.cell? ⟨gb221, 5, none⟩ = some (.slice Ao12 t217.length co12) ∧ w'.cell? ⟨gb231, 0, none⟩ = some (.int .u64 t222) ∧ w'.cell? ⟨gb231, 1, none⟩ = some (.int .u64 t223) ∧ w'.cell? ⟨gb231, 2, none⟩ = some (.int .i64 t224) ∧ w'.cell? ⟨gb231, 3, none⟩ = some (.int .i64 t225) ∧ w'.cell? ⟨gb231, 4, none⟩ = some (.int .u64 t226) ∧ w'.cell? ⟨gb231, 5, none⟩ = some (.slice Ao17 t227.length co17)) (ds := []) #[false, false, false, false, false, false, false, false, false, false] (by kernel_rfl) rfl rfl ⟨(blk_cell BK221.out 0).trans rfl, (blk_cell BK221.out 1).trans rfl, (blk_cell BK221.out 2).trans rfl, (blk_cell BK221.out 3).trans rfl, (blk_cell BK221.out 4).trans rfl, (blk_cell BK221.out 5).trans rfl, (blk_cell BK231.out 0).trans rfl, (blk_cell BK231.out 1).trans rfl, (blk_cell BK231.out 2).trans rfl, (blk_cell BK231.out 3).trans rfl, (blk_cell BK231.out 4).trans rfl, (blk_cell BK231.out 5).trans rfl⟩ (fun hHeld => ?_); refine with_tabW prolepsislaw14_KeygramParses.tab4 prolepsislaw14_KeygramParses.bits4 (fun HT_ HW_ => ?_)
          generalize w21.drew = w22 at HO219 HO229 BK221 BK231 HB hHeld ⊢
          refine pure_ (i := 0) (N := some 24) (v := ?_) (a' := ?_) #[true, false, false, false, false, false, false, false, false, false] rfl rfl (any_of HT_.out (by kernel_rfl)) (fun _ _ _ h => h) (Or.inl ⟨by rfl, ?_⟩) ?_ ?_
          rotate_left
          · intro w'
            go_simp
            with_reducible rfl
          rotate_left
          · simp only [Act.put, List.setIfInBounds_toArray, List.set_cons_zero, List.set_cons_succ, i64_w, i32_w]
            rfl
          refine pure_ (i := 1) (N := some 25) (v := ?_) (a' := ?_) #[true, true, false, false, false, false, false, false, false, false] rfl rfl (any_of HT_.out (by kernel_rfl)) (fun _ _ _ h => h) (Or.inl ⟨by rfl, ?_⟩) ?_ ?_
          rotate_left
          · intro w'
            go_simp
            with_reducible rfl
          rotate_left
          · simp only [Act.put, List.setIfInBounds_toArray, List.set_cons_zero, List.set_cons_succ, i64_w, i32_w]
            rfl
          refine pure_ (i := 2) (N := some 26) (v := ?_) (a' := ?_) #[true, true, true, false, false, false, false, false, false, false] rfl rfl (any_of HT_.out (by kernel_rfl)) (fun _ _ _ h => h) (Or.inl ⟨by rfl, ?_⟩) ?_ ?_
          rotate_left
          · intro w'
            go_simp
            with_reducible rfl
          rotate_left
          · simp only [Act.put, List.setIfInBounds_toArray, List.set_cons_zero, List.set_cons_succ, i64_w, i32_w]
            rfl
          refine pure_ (i := 3) (N := some 27) (v := ?_) (a' := ?_) #[true, true, true, true, false, false, false, false, false, false] rfl rfl (any_of HT_.out (by kernel_rfl)) (fun _ _ _ h => h) (Or.inl ⟨by rfl, ?_⟩) ?_ ?_
          rotate_left
          · intro w'
            go_simp
            with_reducible rfl
          rotate_left
          · simp only [Act.put, List.setIfInBounds_toArray, List.set_cons_zero, List.set_cons_succ, i64_w, i32_w]
            rfl
          refine take_ (i := 4) (N := some 28) (v := ?_) (a' := ?_) #[true, true, true, true, true, false, false, false, false, false] rfl rfl (take_ofW HT_.out HW_.out (by kernel_rfl)) (fun _ _ _ h => h) (Or.inl ⟨by rfl, ?_⟩) hHeld ?_ ?_
          rotate_left
          · rintro w' ⟨s0, s1, s2, s3, s4, s5, s6, s7, s8, s9, s10, s11⟩
            go_simp
            with_reducible rfl
          rotate_left
          · simp only [Act.put, List.setIfInBounds_toArray, List.set_cons_zero, List.set_cons_succ, i64_w, i32_w]
            rfl
          refine take_ (i := 6) (N := some 30) (v := ?_) (a' := ?_) #[true, true, true, true, true, false, true, false, false, false] rfl rfl (take_ofW HT_.out HW_.out (by kernel_rfl)) (fun _ _ _ h => h) (Or.inl ⟨by rfl, ?_⟩) hHeld ?_ ?_
          rotate_left
          · rintro w' ⟨s0, s1, s2, s3, s4, s5, s6, s7, s8, s9, s10, s11⟩
            go_simp
            with_reducible rfl
          rotate_left
          · simp only [Act.put, List.setIfInBounds_toArray, List.set_cons_zero, List.set_cons_succ, i64_w, i32_w]
            rfl
          refine one_ (i := 5) (N := some 29) #[true, true, true, true, true, true, true, false, false, false] rfl rfl (one_of HT_.out (by kernel_rfl)) (by decide) (fun K hK => ?_)
          refine goes_ Try.func42 (by kernel_rfl) rfl #[.agg #[.int .u64 t212, .int .u64 t213, .int .i64 t214, .int .i64 t215, .int .u64 t216, .slice Ao12 t217.length co12]] (by rfl) rfl rfl (by (try simp only [List.map_toArray, List.map_cons, List.map_nil]); first | done | rfl | (simp only [List.length_drop, List.length_take]; rfl)) ?_
          with_reducible refine (prolepsislaw14_Of.calls k t212 t213 t214 t215 t216 _ _ t217 t232 t233 t234 t235 t236 t237 _ ?side1 ?side2 A19.out).mono ?_
          (case side1 => repeat (first | exact (Kd.N_reads' HO219.out).2.2 | (with_reducible refine Kd.C_alloc ?_ _) | (with_reducible refine Kd.C_drewN ?_ _) | (with_reducible refine Kd.C_drew ?_)))
          (case side2 => exact (Kd.N_reads' HO219.out).2.1)
          rintro e w23 ⟨v238, rfl, ho0, hb⟩
          refine ⟨_, rfl, ?_⟩
          have n0_ := Aside0.mk (Kd.N_elder' (by (with_reducible repeat (first | apply Kd.N_alloc | apply Kd.N_drewN | apply Kd.N_drew)); exact HO219.out) (Kd.R_base ho0) hb)
          have n1_ := Aside0.mk (Kd.R_elder' (by (with_reducible repeat (first | apply Kd.R_alloc | apply Kd.R_drewN | apply Kd.R_drew)); exact HO229.out) (Kd.R_base ho0) hb)
          have n2_ := Aside0.mk (Kd.R_lower (Kd.R_new' ho0 (Kd.R_lt (by (with_reducible repeat (first | apply Kd.R_alloc | apply Kd.R_drewN | apply Kd.R_drew)); exact HO229.out))) (below_size (by repeat (first | (with_reducible first | exact HB.out | apply below_alloc | apply pw_below_drewN | apply below_drew1 | refine below_set ?_ GE221.out | refine below_set ?_ GE231.out) | exact HB.out))))
          have n3_ := Aside0.mk (blk_below (g := gb221) (o := .cells #[.int .u64 t212, .int .u64 t213, .int .i64 t214, .int .i64 t215, .int .u64 t216, .slice Ao12 t217.length co12] 66 (0, 0)) (by (with_reducible repeat (first | refine blk_drewN ?_ _ | refine blk_drew ?_ | refine blk_alloc ?_ _)); exact BK221.out) hb)
          have n4_ := Aside0.mk (blk_below (g := gb231) (o := .cells #[.int .u64 t222, .int .u64 t223, .int .i64 t224, .int .i64 t225, .int .u64 t226, .slice Ao17 t227.length co17] 71 (0, 0)) (by (with_reducible repeat (first | refine blk_drewN ?_ _ | refine blk_drew ?_ | refine blk_alloc ?_ _)); exact BK231.out) hb)
          have n5_ := Aside0.mk (below_step (by repeat (first | (with_reducible first | exact HB.out | apply below_alloc | apply pw_below_drewN | apply below_drew1 | refine below_set ?_ GE221.out | refine below_set ?_ GE231.out) | exact HB.out)) hb)
          clear HO219
          clear HO229
          clear BK221
          clear BK231
          clear HB
          have HO219 := n0_
          have HO229 := n1_
          have HO239 := n2_
          have BK221 := n3_
          have BK231 := n4_
          have HB := n5_
          clear n0_ n1_ n2_ n3_ n4_ n5_
          (try clear hb)
          (try clear hb2)
          (try clear hk)
          (try clear hi)
          (try clear ho0)
          obtain ⟨Ao24, co24, eo24⟩ := Kd.R_slice HO239.out
          (first | subst eo24 | (injection eo24 with f1_ f2_ f3_; have f4_ := f1_.symm; have f5_ := f3_.symm; clear f1_ f2_ f3_; subst f4_; subst f5_))
          refine hK.out _ _ ⟨(blk_cell BK221.out 0).trans rfl, (blk_cell BK221.out 1).trans rfl, (blk_cell BK221.out 2).trans rfl, (blk_cell BK221.out 3).trans rfl, (blk_cell BK221.out 4).trans rfl, (blk_cell BK221.out 5).trans rfl, (blk_cell BK231.out 0).trans rfl, (blk_cell BK231.out 1).trans rfl, (blk_cell BK231.out 2).trans rfl, (blk_cell BK231.out 3).trans rfl, (blk_cell BK231.out 4).trans rfl, (blk_cell BK231.out 5).trans rfl⟩ (fun hHeld => ?_)
          clear hK K
          refine norm_ (a' := ?_) ?_ ?_
          rotate_left
          · show Act.put _ (some 29) _ = _
            simp only [Act.put, List.setIfInBounds_toArray, List.set_cons_zero, List.set_cons_succ, i64_w, i32_w]
            rfl
          refine one_ (i := 7) (N := some 31) #[true, true, true, true, true, true, true, true, false, false] rfl rfl (one_of HT_.out (by kernel_rfl)) (by decide) (fun K hK => ?_)
          refine goes_ Try.func47 (by kernel_rfl) rfl #[.agg #[.int .u64 t232, .int .u64 t233, .int .i64 t234, .int .i64 t235, .int .u64 t236, .slice Ao24 t237.length co24], .agg #[.int .u64 t222, .int .u64 t223, .int .i64 t224, .int .i64 t225, .int .u64 t226, .slice Ao17 t227.length co17]] (by rfl) rfl rfl (by (try simp only [List.map_toArray, List.map_cons, List.map_nil]); first | done | rfl | (simp only [List.length_drop, List.length_take]; rfl)) ?_
          with_reducible refine (prolepsisref14_Same.calls k t232 t233 t234 t235 t236 _ _ t237 t222 t223 t224 t225 t226 _ _ t227 t240 _ ?side1 ?side2 ?side3 ?side4 A20.out).mono ?_
          (case side1 => repeat (first | exact (Kd.R_reads' HO239.out).2.2 | (with_reducible refine Kd.C_alloc ?_ _) | (with_reducible refine Kd.C_drewN ?_ _) | (with_reducible refine Kd.C_drew ?_)))
          (case side2 => exact (Kd.R_reads' HO239.out).2.1)
          (case side3 => repeat (first | exact (Kd.R_reads' HO229.out).2.2 | (with_reducible refine Kd.C_alloc ?_ _) | (with_reducible refine Kd.C_drewN ?_ _) | (with_reducible refine Kd.C_drew ?_)))
          (case side4 => exact (Kd.R_reads' HO229.out).2.1)
          rintro e w25 ⟨rfl, hb⟩
          refine ⟨_, rfl, ?_⟩
          have n0_ := Aside0.mk (Kd.N_below (by (with_reducible repeat (first | apply Kd.N_alloc | apply Kd.N_drewN | apply Kd.N_drew)); exact HO219.out) hb)
          have n1_ := Aside0.mk (Kd.R_below (by (with_reducible repeat (first | apply Kd.R_alloc | apply Kd.R_drewN | apply Kd.R_drew)); exact HO229.out) hb)
          have n2_ := Aside0.mk (Kd.R_below (by (with_reducible repeat (first | apply Kd.R_alloc | apply Kd.R_drewN | apply Kd.R_drew)); exact HO239.out) hb)
          have n3_ := Aside0.mk (blk_below (g := gb221) (o := .cells #[.int .u64 t212, .int .u64 t213, .int .i64 t214, .int .i64 t215, .int .u64 t216, .slice Ao12 t217.length co12] 66 (0, 0)) (by (with_reducible repeat (first | refine blk_drewN ?_ _ | refine blk_drew ?_ | refine blk_alloc ?_ _)); exact BK221.out) hb)
          have n4_ := Aside0.mk (blk_below (g := gb231) (o := .cells #[.int .u64 t222, .int .u64 t223, .int .i64 t224, .int .i64 t225, .int .u64 t226, .slice Ao17 t227.length co17] 71 (0, 0)) (by (with_reducible repeat (first | refine blk_drewN ?_ _ | refine blk_drew ?_ | refine blk_alloc ?_ _)); exact BK231.out) hb)
          have n5_ := Aside0.mk (below_step (by repeat (first | (with_reducible first | exact HB.out | apply below_alloc | apply pw_below_drewN | apply below_drew1 | refine below_set ?_ GE221.out | refine below_set ?_ GE231.out) | exact HB.out)) hb)
          clear HO219
          clear HO229
          clear HO239
          clear BK221
          clear BK231
          clear HB
          have HO219 := n0_
          have HO229 := n1_
          have HO239 := n2_
          have BK221 := n3_
          have BK231 := n4_
          have HB := n5_
          clear n0_ n1_ n2_ n3_ n4_ n5_
          (try clear hb)
          (try clear hb2)
          (try clear hk)
          (try clear hi)
          refine hK.out _ _ ⟨(blk_cell BK221.out 0).trans rfl, (blk_cell BK221.out 1).trans rfl, (blk_cell BK221.out 2).trans rfl, (blk_cell BK221.out 3).trans rfl, (blk_cell BK221.out 4).trans rfl, (blk_cell BK221.out 5).trans rfl, (blk_cell BK231.out 0).trans rfl, (blk_cell BK231.out 1).trans rfl, (blk_cell BK231.out 2).trans rfl, (blk_cell BK231.out 3).trans rfl, (blk_cell BK231.out 4).trans rfl, (blk_cell BK231.out 5).trans rfl⟩ (fun hHeld => ?_)
          clear hK K
          refine norm_ (a' := ?_) ?_ ?_
          rotate_left
          · show Act.put _ (some 31) _ = _
            simp only [Act.put, List.setIfInBounds_toArray, List.set_cons_zero, List.set_cons_succ, i64_w, i32_w]
            rfl
          refine pure_ (i := 8) (N := some 32) (v := ?_) (a' := ?_) #[true, true, true, true, true, true, true, true, true, false] rfl rfl (any_of HT_.out (by kernel_rfl)) (fun _ _ _ h => h) (Or.inl ⟨by rfl, ?_⟩) ?_ ?_
          rotate_left
          · intro w'
            go_simp
            with_reducible rfl
          rotate_left
          · simp only [Act.put, List.setIfInBounds_toArray, List.set_cons_zero, List.set_cons_succ, i64_w, i32_w]
            rfl
          refine pure_ (i := 9) (N := some 33) (v := ?_) (a' := ?_) #[true, true, true, true, true, true, true, true, true, true] rfl rfl (any_of HT_.out (by kernel_rfl)) (fun _ _ _ h => h) (Or.inl ⟨by rfl, ?_⟩) ?_ ?_
          rotate_left
          · intro w'
            go_simp
            with_reducible rfl
          rotate_left
          · simp only [Act.put, List.setIfInBounds_toArray, List.set_cons_zero, List.set_cons_succ, i64_w, i32_w]
            rfl
          refine done_ (done_of HT_.out (by kernel_rfl)) ?_
          try go_wp2
          go_meet
          case rel => exact ⟨_, (!t240), (by first | rfl | (simp; done) | (simp [*]; done)), H', ⟨by first | omega | exact Nat.le_refl _⟩, ⟨by (with_reducible repeat (first | apply Kd.N_alloc | apply Kd.N_drewN | apply Kd.N_drew)); exact Kd.N_mono HO219.out (fun _ hk => ⟨hk.1.1, ⟨hk.1.2.1, hk.1.2.2⟩⟩)⟩, ⟨by (with_reducible repeat (first | apply Kd.R_alloc | apply Kd.R_drewN | apply Kd.R_drew)); exact Kd.R_mono HO229.out (fun _ hk => trivial)⟩, ⟨by (with_reducible repeat (first | refine blk_drewN ?_ _ | refine blk_drew ?_ | refine blk_alloc ?_ _)); exact BK221.out⟩, ⟨by (with_reducible repeat (first | refine blk_drewN ?_ _ | refine blk_drew ?_ | refine blk_alloc ?_ _)); exact BK231.out⟩, ⟨by repeat (first | (with_reducible first | exact HB.out | apply below_alloc | apply pw_below_drewN | apply below_drew1 | refine below_set ?_ GE221.out | refine below_set ?_ GE231.out) | exact HB.out)⟩⟩
        · rw [if_neg c18] at H
          have c18b0 : (t220 == t230) = false := beq_eq_false_iff_ne.mpr c18
          have c18b1 : (t220 != t230) = true := bne_iff_ne.mpr c18
          (first | rw [c18b0] | (simp only [i64_w, i32_w]; rw [c18b0]) | skip)
          have H' := Aside0.mk H
          clear H
          try go_wp2
          have n0_ : Aside0 (Kd.N (Kd.slice 5 (Kd.int .u8)) 27 ((((((w14.setCell ⟨gb231, 0, none⟩ (.int .u64 t222)).setCell ⟨gb231, 1, none⟩ (.int .u64 t223)).setCell ⟨gb231, 2, none⟩ (.int .i64 t224)).setCell ⟨gb231, 3, none⟩ (.int .i64 t225)).setCell ⟨gb231, 4, none⟩ (.int .u64 t226)).setCell ⟨gb231, 5, none⟩ (.slice Ao17 t227.length co17)) w.heap.size (fun k_ => some k_ ≠ (.slice Ao17 t227.length co17 : Value).ownBlock ∧ k_ ≠ gb221 ∧ k_ ≠ gb231) (.slice Ao12 t217.length co12) t217) := ⟨by (with_reducible repeat (first | apply Kd.N_alloc | apply Kd.N_drewN | apply Kd.N_drew)); exact Kd.N_mono (Kd.N_far (p := ⟨gb231, 5, none⟩) (Kd.N_far (p := ⟨gb231, 4, none⟩) (Kd.N_far (p := ⟨gb231, 3, none⟩) (Kd.N_far (p := ⟨gb231, 2, none⟩) (Kd.N_far (p := ⟨gb231, 1, none⟩) (Kd.N_far (p := ⟨gb231, 0, none⟩) (Kd.N_mono HO219.out (fun k_ hk => (⟨hk, hk.2⟩ : _ ∧ k_ ≠ gb231))) (fun _ hk => hk.2) (.int .u64 t222)) (fun _ hk => hk.2) (.int .u64 t223)) (fun _ hk => hk.2) (.int .i64 t224)) (fun _ hk => hk.2) (.int .i64 t225)) (fun _ hk => hk.2) (.int .u64 t226)) (fun _ hk => hk.2) (.slice Ao17 t227.length co17)) (fun _ hk => ⟨hk.1.1.2, ⟨hk.1.1.1.2, hk.1.2⟩⟩)⟩
          have n1_ : Aside0 (Kd.R Kd.string 9 ((((((w14.setCell ⟨gb231, 0, none⟩ (.int .u64 t222)).setCell ⟨gb231, 1, none⟩ (.int .u64 t223)).setCell ⟨gb231, 2, none⟩ (.int .i64 t224)).setCell ⟨gb231, 3, none⟩ (.int .i64 t225)).setCell ⟨gb231, 4, none⟩ (.int .u64 t226)).setCell ⟨gb231, 5, none⟩ (.slice Ao17 t227.length co17)) w.heap.size (fun _ => True) (.slice Ao17 t227.length co17) t227) := ⟨by (with_reducible repeat (first | apply Kd.R_alloc | apply Kd.R_drewN | apply Kd.R_drew)); exact Kd.R_mono (Kd.R_far (p := ⟨gb231, 5, none⟩) (Kd.R_far (p := ⟨gb231, 4, none⟩) (Kd.R_far (p := ⟨gb231, 3, none⟩) (Kd.R_far (p := ⟨gb231, 2, none⟩) (Kd.R_far (p := ⟨gb231, 1, none⟩) (Kd.R_far (p := ⟨gb231, 0, none⟩) (Kd.R_types HO229.out BK231.out (by decide)) (fun _ hk => hk.2) (.int .u64 t222)) (fun _ hk => hk.2) (.int .u64 t223)) (fun _ hk => hk.2) (.int .i64 t224)) (fun _ hk => hk.2) (.int .i64 t225)) (fun _ hk => hk.2) (.int .u64 t226)) (fun _ hk => hk.2) (.slice Ao17 t227.length co17)) (fun _ hk => trivial)⟩
          have n2_ : Aside0 (((((((w14.setCell ⟨gb231, 0, none⟩ (.int .u64 t222)).setCell ⟨gb231, 1, none⟩ (.int .u64 t223)).setCell ⟨gb231, 2, none⟩ (.int .i64 t224)).setCell ⟨gb231, 3, none⟩ (.int .i64 t225)).setCell ⟨gb231, 4, none⟩ (.int .u64 t226)).setCell ⟨gb231, 5, none⟩ (.slice Ao17 t227.length co17)).heap[gb221]? = some (.cells #[.int .u64 t212, .int .u64 t213, .int .i64 t214, .int .i64 t215, .int .u64 t216, .slice Ao12 t217.length co12] 66 (0, 0))) := ⟨by (with_reducible repeat (first | refine blk_drewN ?_ _ | refine blk_drew ?_ | refine blk_alloc ?_ _)); refine blk_far ?_ NB221_231.out _; (with_reducible repeat (first | refine blk_drewN ?_ _ | refine blk_drew ?_ | refine blk_alloc ?_ _)); refine blk_far ?_ NB221_231.out _; (with_reducible repeat (first | refine blk_drewN ?_ _ | refine blk_drew ?_ | refine blk_alloc ?_ _)); refine blk_far ?_ NB221_231.out _; (with_reducible repeat (first | refine blk_drewN ?_ _ | refine blk_drew ?_ | refine blk_alloc ?_ _)); refine blk_far ?_ NB221_231.out _; (with_reducible repeat (first | refine blk_drewN ?_ _ | refine blk_drew ?_ | refine blk_alloc ?_ _)); refine blk_far ?_ NB221_231.out _; (with_reducible repeat (first | refine blk_drewN ?_ _ | refine blk_drew ?_ | refine blk_alloc ?_ _)); refine blk_far ?_ NB221_231.out _; (with_reducible repeat (first | refine blk_drewN ?_ _ | refine blk_drew ?_ | refine blk_alloc ?_ _)); exact BK221.out⟩
          have n3_ : Aside0 (((((((w14.setCell ⟨gb231, 0, none⟩ (.int .u64 t222)).setCell ⟨gb231, 1, none⟩ (.int .u64 t223)).setCell ⟨gb231, 2, none⟩ (.int .i64 t224)).setCell ⟨gb231, 3, none⟩ (.int .i64 t225)).setCell ⟨gb231, 4, none⟩ (.int .u64 t226)).setCell ⟨gb231, 5, none⟩ (.slice Ao17 t227.length co17)).heap[gb231]? = some (.cells #[.int .u64 t222, .int .u64 t223, .int .i64 t224, .int .i64 t225, .int .u64 t226, .slice Ao17 t227.length co17] 71 (0, 0))) := ⟨by (with_reducible repeat (first | refine blk_drewN ?_ _ | refine blk_drew ?_ | refine blk_alloc ?_ _)); refine blk_put (cs := #[.int .u64 t222, .int .u64 t223, .int .i64 t224, .int .i64 t225, .int .u64 t226, .slice none 0 0]) ?_ 5 _ rfl; (with_reducible repeat (first | refine blk_drewN ?_ _ | refine blk_drew ?_ | refine blk_alloc ?_ _)); refine blk_put (cs := #[.int .u64 t222, .int .u64 t223, .int .i64 t224, .int .i64 t225, .int .u64 0, .slice none 0 0]) ?_ 4 _ rfl; (with_reducible repeat (first | refine blk_drewN ?_ _ | refine blk_drew ?_ | refine blk_alloc ?_ _)); refine blk_put (cs := #[.int .u64 t222, .int .u64 t223, .int .i64 t224, .int .i64 0, .int .u64 0, .slice none 0 0]) ?_ 3 _ rfl; (with_reducible repeat (first | refine blk_drewN ?_ _ | refine blk_drew ?_ | refine blk_alloc ?_ _)); refine blk_put (cs := #[.int .u64 t222, .int .u64 t223, .int .i64 0, .int .i64 0, .int .u64 0, .slice none 0 0]) ?_ 2 _ rfl; (with_reducible repeat (first | refine blk_drewN ?_ _ | refine blk_drew ?_ | refine blk_alloc ?_ _)); refine blk_put (cs := #[.int .u64 t222, .int .u64 0, .int .i64 0, .int .i64 0, .int .u64 0, .slice none 0 0]) ?_ 1 _ rfl; (with_reducible repeat (first | refine blk_drewN ?_ _ | refine blk_drew ?_ | refine blk_alloc ?_ _)); refine blk_put (cs := #[.int .u64 0, .int .u64 0, .int .i64 0, .int .i64 0, .int .u64 0, .slice none 0 0]) ?_ 0 _ rfl; (with_reducible repeat (first | refine blk_drewN ?_ _ | refine blk_drew ?_ | refine blk_alloc ?_ _)); exact BK231.out⟩
          have n4_ : Aside0 (Below w.heap.size w ((((((w14.setCell ⟨gb231, 0, none⟩ (.int .u64 t222)).setCell ⟨gb231, 1, none⟩ (.int .u64 t223)).setCell ⟨gb231, 2, none⟩ (.int .i64 t224)).setCell ⟨gb231, 3, none⟩ (.int .i64 t225)).setCell ⟨gb231, 4, none⟩ (.int .u64 t226)).setCell ⟨gb231, 5, none⟩ (.slice Ao17 t227.length co17))) := ⟨by repeat (first | (with_reducible first | exact HB.out | apply below_alloc | apply pw_below_drewN | apply below_drew1 | refine below_set ?_ GE221.out | refine below_set ?_ GE231.out) | exact HB.out)⟩
          (try clear HO219)
          (try clear HO229)
          (try clear BK221)
          (try clear BK231)
          (try clear HB)
          generalize ((((((w14.setCell ⟨gb231, 0, none⟩ (.int .u64 t222)).setCell ⟨gb231, 1, none⟩ (.int .u64 t223)).setCell ⟨gb231, 2, none⟩ (.int .i64 t224)).setCell ⟨gb231, 3, none⟩ (.int .i64 t225)).setCell ⟨gb231, 4, none⟩ (.int .u64 t226)).setCell ⟨gb231, 5, none⟩ (.slice Ao17 t227.length co17)) = w26 at n0_ n1_ n2_ n3_ n4_ ⊢
          have HO219 := n0_
          have HO229 := n1_
          have BK221 := n2_
          have BK231 := n3_
          have HB := n4_
          clear n0_ n1_ n2_ n3_ n4_
          have n0_ := Aside0.mk (Kd.N_drew HO219.out)
          have n1_ := Aside0.mk (Kd.R_drew HO229.out)
          have n2_ := Aside0.mk (blk_drew BK221.out)
          have n3_ := Aside0.mk (blk_drew BK231.out)
          have n4_ := Aside0.mk (below_drew1 HB.out)
          clear HO219
          clear HO229
          clear BK221
          clear BK231
          clear HB
          have HO219 := n0_
          have HO229 := n1_
          have BK221 := n2_
          have BK231 := n3_
          have HB := n4_
          clear n0_ n1_ n2_ n3_ n4_
          refine start_ (n := 10) (S := fun w' => True) (ds := []) #[false, false, false, false, false, false, false, false, false, false] (by kernel_rfl) rfl rfl trivial (fun hHeld => ?_); refine with_tabW prolepsislaw14_KeygramParses.tab4 prolepsislaw14_KeygramParses.bits4 (fun HT_ HW_ => ?_)
          generalize w26.drew = w27 at HO219 HO229 BK221 BK231 HB hHeld ⊢
          refine pure_ (i := 0) (N := some 24) (v := ?_) (a' := ?_) #[true, false, false, false, false, false, false, false, false, false] rfl rfl (any_of HT_.out (by kernel_rfl)) (fun _ _ _ h => h) (Or.inl ⟨by rfl, ?_⟩) ?_ ?_
          rotate_left
          · intro w'
            go_simp
            with_reducible rfl
          rotate_left
          · simp only [Act.put, List.setIfInBounds_toArray, List.set_cons_zero, List.set_cons_succ, i64_w, i32_w]
            rfl
          refine pure_ (i := 1) (N := some 25) (v := ?_) (a' := ?_) #[true, true, false, false, false, false, false, false, false, false] rfl rfl (any_of HT_.out (by kernel_rfl)) (fun _ _ _ h => h) (Or.inl ⟨by rfl, ?_⟩) ?_ ?_
          rotate_left
          · intro w'
            go_simp
            with_reducible rfl
          rotate_left
          · simp only [Act.put, List.setIfInBounds_toArray, List.set_cons_zero, List.set_cons_succ, i64_w, i32_w]
            rfl
          refine pure_ (i := 2) (N := some 26) (v := ?_) (a' := ?_) #[true, true, true, false, false, false, false, false, false, false] rfl rfl (any_of HT_.out (by kernel_rfl)) (fun _ _ _ h => h) (Or.inl ⟨by rfl, ?_⟩) ?_ ?_
          rotate_left
          · intro w'
            go_simp
            with_reducible rfl
          rotate_left
          · simp only [Act.put, List.setIfInBounds_toArray, List.set_cons_zero, List.set_cons_succ, i64_w, i32_w]
            rfl
          refine pure_ (i := 3) (N := some 27) (v := ?_) (a' := ?_) #[true, true, true, true, false, false, false, false, false, false] rfl rfl (any_of HT_.out (by kernel_rfl)) (fun _ _ _ h => h) (Or.inl ⟨by rfl, ?_⟩) ?_ ?_
          rotate_left
          · intro w'
            go_simp
            with_reducible rfl
          rotate_left
          · simp only [Act.put, List.setIfInBounds_toArray, List.set_cons_zero, List.set_cons_succ, i64_w, i32_w]
            rfl
          refine pure_ (i := 4) (N := some 28) (v := undef) (a' := ?_) #[true, true, true, true, true, false, false, false, false, false] rfl rfl (any_of HT_.out (by kernel_rfl)) (fun _ _ _ h => h) (Or.inr ⟨by rfl, rfl⟩) ?_ ?_
          rotate_left
          · simp only [Act.put, List.setIfInBounds_toArray, List.set_cons_zero, List.set_cons_succ, i64_w, i32_w]
            rfl
          refine pure_ (i := 5) (N := some 29) (v := undef) (a' := ?_) #[true, true, true, true, true, true, false, false, false, false] rfl rfl (any_of HT_.out (by kernel_rfl)) (fun _ _ _ h => h) (Or.inr ⟨by rfl, rfl⟩) ?_ ?_
          rotate_left
          · simp only [Act.put, List.setIfInBounds_toArray, List.set_cons_zero, List.set_cons_succ, i64_w, i32_w]
            rfl
          refine pure_ (i := 6) (N := some 30) (v := undef) (a' := ?_) #[true, true, true, true, true, true, true, false, false, false] rfl rfl (any_of HT_.out (by kernel_rfl)) (fun _ _ _ h => h) (Or.inr ⟨by rfl, rfl⟩) ?_ ?_
          rotate_left
          · simp only [Act.put, List.setIfInBounds_toArray, List.set_cons_zero, List.set_cons_succ, i64_w, i32_w]
            rfl
          refine pure_ (i := 7) (N := some 31) (v := undef) (a' := ?_) #[true, true, true, true, true, true, true, true, false, false] rfl rfl (any_of HT_.out (by kernel_rfl)) (fun _ _ _ h => h) (Or.inr ⟨by rfl, rfl⟩) ?_ ?_
          rotate_left
          · simp only [Act.put, List.setIfInBounds_toArray, List.set_cons_zero, List.set_cons_succ, i64_w, i32_w]
            rfl
          refine pure_ (i := 8) (N := some 32) (v := undef) (a' := ?_) #[true, true, true, true, true, true, true, true, true, false] rfl rfl (any_of HT_.out (by kernel_rfl)) (fun _ _ _ h => h) (Or.inr ⟨by rfl, rfl⟩) ?_ ?_
          rotate_left
          · simp only [Act.put, List.setIfInBounds_toArray, List.set_cons_zero, List.set_cons_succ, i64_w, i32_w]
            rfl
          refine pure_ (i := 9) (N := some 33) (v := ?_) (a' := ?_) #[true, true, true, true, true, true, true, true, true, true] rfl rfl (any_of HT_.out (by kernel_rfl)) (fun _ _ _ h => h) (Or.inl ⟨by rfl, ?_⟩) ?_ ?_
          rotate_left
          · intro w'
            go_simp
            with_reducible rfl
          rotate_left
          · simp only [Act.put, List.setIfInBounds_toArray, List.set_cons_zero, List.set_cons_succ, i64_w, i32_w]
            rfl
          refine done_ (done_of HT_.out (by kernel_rfl)) ?_
          try go_wp2
          go_meet
          case rel => exact ⟨_, (true), (by first | rfl | (simp; done) | (simp [*]; done)), H', ⟨by first | omega | exact Nat.le_refl _⟩, ⟨by (with_reducible repeat (first | apply Kd.N_alloc | apply Kd.N_drewN | apply Kd.N_drew)); exact HO219.out⟩, ⟨by (with_reducible repeat (first | apply Kd.R_alloc | apply Kd.R_drewN | apply Kd.R_drew)); exact HO229.out⟩, ⟨by (with_reducible repeat (first | refine blk_drewN ?_ _ | refine blk_drew ?_ | refine blk_alloc ?_ _)); exact BK221.out⟩, ⟨by (with_reducible repeat (first | refine blk_drewN ?_ _ | refine blk_drew ?_ | refine blk_alloc ?_ _)); exact BK231.out⟩, ⟨by repeat (first | (with_reducible first | exact HB.out | apply below_alloc | apply pw_below_drewN | apply below_drew1 | refine below_set ?_ GE221.out | refine below_set ?_ GE231.out) | exact HB.out)⟩⟩
      case rest =>
        clear HC7
        try clear c1
        try clear p2
        try clear c3
        try clear c3b0
        try clear c3b1
        try clear c4
        try clear c4b0
        try clear c4b1
        try clear c10
        try clear c15
        try clear c18
        try clear c18b0
        try clear c18b1
        try clear hcz11_0
        try clear hcz11_1
        try clear hcz11_2
        try clear hcz11_3
        try clear hcz11_4
        try clear hcz11_5
        try clear hcz16_0
        try clear hcz16_1
        try clear hcz16_2
        try clear hcz16_3
        try clear hcz16_4
        try clear hcz16_5
        try clear hfz11_0
        try clear hfz11_1
        try clear hfz11_2
        try clear hfz11_3
        try clear hfz11_4
        try clear hfz11_5
        try clear hfz16_0
        try clear hfz16_1
        try clear hfz16_2
        try clear hfz16_3
        try clear hfz16_4
        try clear hfz16_5
        obtain ⟨kq, x33_6, rfl, HA, HJ6, HO_222005, HO_232005, BK221, BK231, HB⟩ := hcut
        cases kq with
        | zero => exact absurd HA.out (by simp [prolepsislaw14_KeygramParses.j0])
        | succ kj6 =>
          have H := HA.out
          clear HA
          simp only [prolepsislaw14_KeygramParses.j0] at H
          by_cases c28 : x33_6 = true
          · subst c28
            have H1 : (some false) = some r := by rw [if_pos rfl] at H; exact H
            clear H
            have H := H1
            clear H1
            obtain rfl := Option.some.inj H
            go_wp2
            go_ret
            exact ⟨by first | rfl | (simp [errW_none, errW_some] <;> rfl) | (simp only [← hji2]; first | rfl | (simp [errW_none, errW_some] <;> rfl)) | (simp [*, errW_none, errW_some] <;> rfl), by repeat (first | (with_reducible first | exact HB.out | apply below_alloc | apply pw_below_drewN | apply below_drew1 | refine below_set ?_ GE221.out | refine below_set ?_ GE231.out) | exact HB.out)⟩
          · replace c28 := Bool.eq_false_iff.mpr c28
            subst c28
            have H1 : (if t220 = 0 then ((keygram_Bytes.f t212 t213 t214 t215 t216 t217).bind fun bt241 => ((prolepsislaw14_known.f kj6).bind fun t245 => (if t245 = true then (if bt241.2 = 0 then ((prolepsisref01_Same.f bt241.1 LT8).bind fun t246 => (some t246)) else (some false)) else (some false)))) else ((prolepsislaw14_known.f kj6).bind fun t247 => (some t247))) = some r := by rw [if_neg (show ¬ (false = true) by decide)] at H; exact H
            clear H
            have H := H1
            clear H1
            by_cases c29 : t220 = 0
            · rw [if_pos c29] at H
              have c29b0 : (t220 == 0) = true := beq_iff_eq.mpr c29
              have c29b1 : (t220 != 0) = false := bne_eq_false_iff_eq.mpr c29
              clear c29
              replace H := Option.bind_eq_some_iff.mp H
              obtain ⟨⟨t241, t244⟩, A300, H⟩ := H
              replace H : ((prolepsislaw14_known.f kj6).bind fun t245 => (if t245 = true then (if t244 = 0 then ((prolepsisref01_Same.f t241 LT8).bind fun t246 => (some t246)) else (some false)) else (some false))) = some r := H
              have A30 := Aside0.mk A300
              clear A300
              replace H := Option.bind_eq_some_iff.mp H
              obtain ⟨t245, A310, H⟩ := H
              replace H : (if t245 = true then (if t244 = 0 then ((prolepsisref01_Same.f t241 LT8).bind fun t246 => (some t246)) else (some false)) else (some false)) = some r := H
              have A31 := Aside0.mk A310
              clear A310
              by_cases c32 : t245 = true
              · subst c32
                have H1 : (if t244 = 0 then ((prolepsisref01_Same.f t241 LT8).bind fun t246 => (some t246)) else (some false)) = some r := by rw [if_pos rfl] at H; exact H
                clear H
                have H := H1
                clear H1
                by_cases c33 : t244 = 0
                · rw [if_pos c33] at H
                  have c33b0 : (t244 == 0) = true := beq_iff_eq.mpr c33
                  have c33b1 : (t244 != 0) = false := bne_eq_false_iff_eq.mpr c33
                  clear c33
                  replace H := Option.bind_eq_some_iff.mp H
                  obtain ⟨t246, A340, H⟩ := H
                  replace H : (some t246) = some r := H
                  have A34 := Aside0.mk A340
                  clear A340
                  obtain rfl := Option.some.inj H
                  have hnb35 := NB221_231.out
                  have hnc35 := NB231_221.out
                  have hcz36_0 : wc.cell? ⟨gb221, 0, none⟩ = some (.int .u64 t212) := (blk_cell BK221.out 0).trans rfl
                  have hcz36_1 : wc.cell? ⟨gb221, 1, none⟩ = some (.int .u64 t213) := (blk_cell BK221.out 1).trans rfl
                  have hcz36_2 : wc.cell? ⟨gb221, 2, none⟩ = some (.int .i64 t214) := (blk_cell BK221.out 2).trans rfl
                  have hcz36_3 : wc.cell? ⟨gb221, 3, none⟩ = some (.int .i64 t215) := (blk_cell BK221.out 3).trans rfl
                  have hcz36_4 : wc.cell? ⟨gb221, 4, none⟩ = some (.int .u64 t216) := (blk_cell BK221.out 4).trans rfl
                  have hcz36_5 : wc.cell? ⟨gb221, 5, none⟩ = some (.slice Ao12 t217.length co12) := (blk_cell BK221.out 5).trans rfl
                  have hfz36_0 := blk_frozen BK221.out 0
                  have hfz36_1 := blk_frozen BK221.out 1
                  have hfz36_2 := blk_frozen BK221.out 2
                  have hfz36_3 := blk_frozen BK221.out 3
                  have hfz36_4 := blk_frozen BK221.out 4
                  have hfz36_5 := blk_frozen BK221.out 5
                  go_wp2_with (first | ((with_reducible refine gate_callee (f := 48) rfl ?_); refine goesL_ (some 39) rfl rfl Try.func48 (by kernel_rfl) rfl #[.agg #[.int .u64 t212, .int .u64 t213, .int .i64 t214, .int .i64 t215, .int .u64 t216, .slice Ao12 t217.length co12]] rfl (by (try simp only [List.map_toArray, List.map_cons, List.map_nil]); first | done | rfl | (simp only [List.length_drop, List.length_take]; rfl)) ?_; (with_reducible refine (keygram_Bytes.calls t212 t213 t214 t215 t216 _ _ t217 t241 t244 _ ?side1 ?side2 A30.out).mono ?_); (case side1 => repeat (first | exact (Kd.N_reads' HO_222005.out).2.2 | (with_reducible refine Kd.C_alloc ?_ _) | (with_reducible refine Kd.C_drewN ?_ _) | (with_reducible refine Kd.C_drew ?_))); (case side2 => exact (Kd.N_reads' HO_222005.out).2.1); rintro e w37 ⟨v242, rfl, ho0, hb⟩; refine ⟨_, rfl, ?_⟩; have n0_ := Aside0.mk (Kd.N_elder' (by (with_reducible repeat (first | apply Kd.N_alloc | apply Kd.N_drewN | apply Kd.N_drew)); exact HO_222005.out) (Kd.R_base ho0) hb); have n1_ := Aside0.mk (Kd.R_below (by (with_reducible repeat (first | apply Kd.R_alloc | apply Kd.R_drewN | apply Kd.R_drew)); exact HO_232005.out) hb); have n2_ := Aside0.mk (Kd.R_lower ho0 (below_size (by repeat (first | (with_reducible first | exact HB.out | apply below_alloc | apply pw_below_drewN | apply below_drew1 | refine below_set ?_ GE221.out | refine below_set ?_ GE231.out) | exact HB.out)))); have n3_ := Aside0.mk (blk_below (g := gb221) (o := .cells #[.int .u64 t212, .int .u64 t213, .int .i64 t214, .int .i64 t215, .int .u64 t216, .slice Ao12 t217.length co12] 66 (0, 0)) (by (with_reducible repeat (first | refine blk_drewN ?_ _ | refine blk_drew ?_ | refine blk_alloc ?_ _)); exact BK221.out) hb); have n4_ := Aside0.mk (blk_below (g := gb231) (o := .cells #[.int .u64 t222, .int .u64 t223, .int .i64 t224, .int .i64 t225, .int .u64 t226, .slice Ao17 t227.length co17] 71 (0, 0)) (by (with_reducible repeat (first | refine blk_drewN ?_ _ | refine blk_drew ?_ | refine blk_alloc ?_ _)); exact BK231.out) hb); have n5_ := Aside0.mk (below_step (by repeat (first | (with_reducible first | exact HB.out | apply below_alloc | apply pw_below_drewN | apply below_drew1 | refine below_set ?_ GE221.out | refine below_set ?_ GE231.out) | exact HB.out)) hb); clear HO_222005; clear HO_232005; clear BK221; clear BK231; clear HB; have HO_222005 := n0_; have HO_232005 := n1_; have HO243 := n2_; have BK221 := n3_; have BK231 := n4_; have HB := n5_; clear n0_ n1_ n2_ n3_ n4_ n5_; (try clear hb); (try clear hb2); (try clear hk); (try clear hi); (try clear ho0)) | ((with_reducible refine gate_callee (f := 39) rfl ?_); refine goesL_ (some 42) rfl rfl Try.func39 (by kernel_rfl) rfl #[] rfl (by (try simp only [List.map_toArray, List.map_cons, List.map_nil]); first | done | rfl | (simp only [List.length_drop, List.length_take]; rfl)) ?_; (with_reducible refine (prolepsislaw14_known.calls kj6  true _ A31.out).mono ?_); rintro e w38 ⟨rfl, hb⟩; refine ⟨_, rfl, ?_⟩; have n0_ := Aside0.mk (Kd.N_below (by (with_reducible repeat (first | apply Kd.N_alloc | apply Kd.N_drewN | apply Kd.N_drew)); exact HO_222005.out) hb); have n1_ := Aside0.mk (Kd.R_below (by (with_reducible repeat (first | apply Kd.R_alloc | apply Kd.R_drewN | apply Kd.R_drew)); exact HO_232005.out) hb); have n2_ := Aside0.mk (Kd.R_below (by (with_reducible repeat (first | apply Kd.R_alloc | apply Kd.R_drewN | apply Kd.R_drew)); exact HO243.out) hb); have n3_ := Aside0.mk (blk_below (g := gb221) (o := .cells #[.int .u64 t212, .int .u64 t213, .int .i64 t214, .int .i64 t215, .int .u64 t216, .slice Ao12 t217.length co12] 66 (0, 0)) (by (with_reducible repeat (first | refine blk_drewN ?_ _ | refine blk_drew ?_ | refine blk_alloc ?_ _)); exact BK221.out) hb); have n4_ := Aside0.mk (blk_below (g := gb231) (o := .cells #[.int .u64 t222, .int .u64 t223, .int .i64 t224, .int .i64 t225, .int .u64 t226, .slice Ao17 t227.length co17] 71 (0, 0)) (by (with_reducible repeat (first | refine blk_drewN ?_ _ | refine blk_drew ?_ | refine blk_alloc ?_ _)); exact BK231.out) hb); have n5_ := Aside0.mk (below_step (by repeat (first | (with_reducible first | exact HB.out | apply below_alloc | apply pw_below_drewN | apply below_drew1 | refine below_set ?_ GE221.out | refine below_set ?_ GE231.out) | exact HB.out)) hb); clear HO_222005; clear HO_232005; clear HO243; clear BK221; clear BK231; clear HB; have HO_222005 := n0_; have HO_232005 := n1_; have HO243 := n2_; have BK221 := n3_; have BK231 := n4_; have HB := n5_; clear n0_ n1_ n2_ n3_ n4_ n5_; (try clear hb); (try clear hb2); (try clear hk); (try clear hi); obtain ⟨Ao39, co39, eo39⟩ := Kd.R_slice HO243.out; subst eo39) | (go_at_call 19; (with_reducible refine (prolepsisref01_Same.calls _ _ t241 _ _ LT8 t246 _ ?side1 ?side2 ?side3 ?side4 A34.out).mono ?_); (case side1 => repeat (first | exact (Kd.R_reads' HO243.out).2.2 | (with_reducible refine Kd.C_alloc ?_ _) | (with_reducible refine Kd.C_drewN ?_ _) | (with_reducible refine Kd.C_drew ?_))); (case side2 => exact (Kd.R_reads' HO243.out).2.1); (case side3 => repeat (first | exact (Kd.C_below HR211.out HB.out) | (with_reducible refine Kd.C_alloc ?_ _) | (with_reducible refine Kd.C_drewN ?_ _) | (with_reducible refine Kd.C_drew ?_))); (case side4 => exact HC211.out); rintro e w' ⟨rfl, ⟨nd, rfl⟩⟩))
                  go_ret
                  exact ⟨by first | rfl | (simp [errW_none, errW_some] <;> rfl) | (simp only [← hji2]; first | rfl | (simp [errW_none, errW_some] <;> rfl)) | (simp [*, errW_none, errW_some] <;> rfl), by repeat (first | (with_reducible first | exact HB.out | apply below_alloc | apply pw_below_drewN | apply below_drew1 | refine below_set ?_ GE221.out | refine below_set ?_ GE231.out) | exact HB.out)⟩
                · rw [if_neg c33] at H
                  have c33b0 : (t244 == 0) = false := beq_eq_false_iff_ne.mpr c33
                  have c33b1 : (t244 != 0) = true := bne_iff_ne.mpr c33
                  obtain rfl := Option.some.inj H
                  have hnb40 := NB221_231.out
                  have hnc40 := NB231_221.out
                  have hcz41_0 : wc.cell? ⟨gb221, 0, none⟩ = some (.int .u64 t212) := (blk_cell BK221.out 0).trans rfl
                  have hcz41_1 : wc.cell? ⟨gb221, 1, none⟩ = some (.int .u64 t213) := (blk_cell BK221.out 1).trans rfl
                  have hcz41_2 : wc.cell? ⟨gb221, 2, none⟩ = some (.int .i64 t214) := (blk_cell BK221.out 2).trans rfl
                  have hcz41_3 : wc.cell? ⟨gb221, 3, none⟩ = some (.int .i64 t215) := (blk_cell BK221.out 3).trans rfl
                  have hcz41_4 : wc.cell? ⟨gb221, 4, none⟩ = some (.int .u64 t216) := (blk_cell BK221.out 4).trans rfl
                  have hcz41_5 : wc.cell? ⟨gb221, 5, none⟩ = some (.slice Ao12 t217.length co12) := (blk_cell BK221.out 5).trans rfl
                  have hfz41_0 := blk_frozen BK221.out 0
                  have hfz41_1 := blk_frozen BK221.out 1
                  have hfz41_2 := blk_frozen BK221.out 2
                  have hfz41_3 := blk_frozen BK221.out 3
                  have hfz41_4 := blk_frozen BK221.out 4
                  have hfz41_5 := blk_frozen BK221.out 5
                  go_wp2_with (first | ((with_reducible refine gate_callee (f := 48) rfl ?_); refine goesL_ (some 39) rfl rfl Try.func48 (by kernel_rfl) rfl #[.agg #[.int .u64 t212, .int .u64 t213, .int .i64 t214, .int .i64 t215, .int .u64 t216, .slice Ao12 t217.length co12]] rfl (by (try simp only [List.map_toArray, List.map_cons, List.map_nil]); first | done | rfl | (simp only [List.length_drop, List.length_take]; rfl)) ?_; (with_reducible refine (keygram_Bytes.calls t212 t213 t214 t215 t216 _ _ t217 t241 t244 _ ?side1 ?side2 A30.out).mono ?_); (case side1 => repeat (first | exact (Kd.N_reads' HO_222005.out).2.2 | (with_reducible refine Kd.C_alloc ?_ _) | (with_reducible refine Kd.C_drewN ?_ _) | (with_reducible refine Kd.C_drew ?_))); (case side2 => exact (Kd.N_reads' HO_222005.out).2.1); rintro e w42 ⟨v242, rfl, ho0, hb⟩; refine ⟨_, rfl, ?_⟩; have n0_ := Aside0.mk (Kd.N_elder' (by (with_reducible repeat (first | apply Kd.N_alloc | apply Kd.N_drewN | apply Kd.N_drew)); exact HO_222005.out) (Kd.R_base ho0) hb); have n1_ := Aside0.mk (Kd.R_below (by (with_reducible repeat (first | apply Kd.R_alloc | apply Kd.R_drewN | apply Kd.R_drew)); exact HO_232005.out) hb); have n2_ := Aside0.mk (Kd.R_lower ho0 (below_size (by repeat (first | (with_reducible first | exact HB.out | apply below_alloc | apply pw_below_drewN | apply below_drew1 | refine below_set ?_ GE221.out | refine below_set ?_ GE231.out) | exact HB.out)))); have n3_ := Aside0.mk (blk_below (g := gb221) (o := .cells #[.int .u64 t212, .int .u64 t213, .int .i64 t214, .int .i64 t215, .int .u64 t216, .slice Ao12 t217.length co12] 66 (0, 0)) (by (with_reducible repeat (first | refine blk_drewN ?_ _ | refine blk_drew ?_ | refine blk_alloc ?_ _)); exact BK221.out) hb); have n4_ := Aside0.mk (blk_below (g := gb231) (o := .cells #[.int .u64 t222, .int .u64 t223, .int .i64 t224, .int .i64 t225, .int .u64 t226, .slice Ao17 t227.length co17] 71 (0, 0)) (by (with_reducible repeat (first | refine blk_drewN ?_ _ | refine blk_drew ?_ | refine blk_alloc ?_ _)); exact BK231.out) hb); have n5_ := Aside0.mk (below_step (by repeat (first | (with_reducible first | exact HB.out | apply below_alloc | apply pw_below_drewN | apply below_drew1 | refine below_set ?_ GE221.out | refine below_set ?_ GE231.out) | exact HB.out)) hb); clear HO_222005; clear HO_232005; clear BK221; clear BK231; clear HB; have HO_222005 := n0_; have HO_232005 := n1_; have HO243 := n2_; have BK221 := n3_; have BK231 := n4_; have HB := n5_; clear n0_ n1_ n2_ n3_ n4_ n5_; (try clear hb); (try clear hb2); (try clear hk); (try clear hi); (try clear ho0)) | ((with_reducible refine gate_callee (f := 39) rfl ?_); refine goesL_ (some 42) rfl rfl Try.func39 (by kernel_rfl) rfl #[] rfl (by (try simp only [List.map_toArray, List.map_cons, List.map_nil]); first | done | rfl | (simp only [List.length_drop, List.length_take]; rfl)) ?_; (with_reducible refine (prolepsislaw14_known.calls kj6  true _ A31.out).mono ?_); rintro e w43 ⟨rfl, hb⟩; refine ⟨_, rfl, ?_⟩; have n0_ := Aside0.mk (Kd.N_below (by (with_reducible repeat (first | apply Kd.N_alloc | apply Kd.N_drewN | apply Kd.N_drew)); exact HO_222005.out) hb); have n1_ := Aside0.mk (Kd.R_below (by (with_reducible repeat (first | apply Kd.R_alloc | apply Kd.R_drewN | apply Kd.R_drew)); exact HO_232005.out) hb); have n2_ := Aside0.mk (Kd.R_below (by (with_reducible repeat (first | apply Kd.R_alloc | apply Kd.R_drewN | apply Kd.R_drew)); exact HO243.out) hb); have n3_ := Aside0.mk (blk_below (g := gb221) (o := .cells #[.int .u64 t212, .int .u64 t213, .int .i64 t214, .int .i64 t215, .int .u64 t216, .slice Ao12 t217.length co12] 66 (0, 0)) (by (with_reducible repeat (first | refine blk_drewN ?_ _ | refine blk_drew ?_ | refine blk_alloc ?_ _)); exact BK221.out) hb); have n4_ := Aside0.mk (blk_below (g := gb231) (o := .cells #[.int .u64 t222, .int .u64 t223, .int .i64 t224, .int .i64 t225, .int .u64 t226, .slice Ao17 t227.length co17] 71 (0, 0)) (by (with_reducible repeat (first | refine blk_drewN ?_ _ | refine blk_drew ?_ | refine blk_alloc ?_ _)); exact BK231.out) hb); have n5_ := Aside0.mk (below_step (by repeat (first | (with_reducible first | exact HB.out | apply below_alloc | apply pw_below_drewN | apply below_drew1 | refine below_set ?_ GE221.out | refine below_set ?_ GE231.out) | exact HB.out)) hb); clear HO_222005; clear HO_232005; clear HO243; clear BK221; clear BK231; clear HB; have HO_222005 := n0_; have HO_232005 := n1_; have HO243 := n2_; have BK221 := n3_; have BK231 := n4_; have HB := n5_; clear n0_ n1_ n2_ n3_ n4_ n5_; (try clear hb); (try clear hb2); (try clear hk); (try clear hi)))
                  go_ret
                  exact ⟨by first | rfl | (simp [errW_none, errW_some] <;> rfl) | (simp only [← hji2]; first | rfl | (simp [errW_none, errW_some] <;> rfl)) | (simp [*, errW_none, errW_some] <;> rfl), by repeat (first | (with_reducible first | exact HB.out | apply below_alloc | apply pw_below_drewN | apply below_drew1 | refine below_set ?_ GE221.out | refine below_set ?_ GE231.out) | exact HB.out)⟩
              · replace c32 := Bool.eq_false_iff.mpr c32
                subst c32
                have H1 : (some false) = some r := by rw [if_neg (show ¬ (false = true) by decide)] at H; exact H
                clear H
                have H := H1
                clear H1
                obtain rfl := Option.some.inj H
                have hnb44 := NB221_231.out
                have hnc44 := NB231_221.out
                have hcz45_0 : wc.cell? ⟨gb221, 0, none⟩ = some (.int .u64 t212) := (blk_cell BK221.out 0).trans rfl
                have hcz45_1 : wc.cell? ⟨gb221, 1, none⟩ = some (.int .u64 t213) := (blk_cell BK221.out 1).trans rfl
                have hcz45_2 : wc.cell? ⟨gb221, 2, none⟩ = some (.int .i64 t214) := (blk_cell BK221.out 2).trans rfl
                have hcz45_3 : wc.cell? ⟨gb221, 3, none⟩ = some (.int .i64 t215) := (blk_cell BK221.out 3).trans rfl
                have hcz45_4 : wc.cell? ⟨gb221, 4, none⟩ = some (.int .u64 t216) := (blk_cell BK221.out 4).trans rfl
                have hcz45_5 : wc.cell? ⟨gb221, 5, none⟩ = some (.slice Ao12 t217.length co12) := (blk_cell BK221.out 5).trans rfl
                have hfz45_0 := blk_frozen BK221.out 0
                have hfz45_1 := blk_frozen BK221.out 1
                have hfz45_2 := blk_frozen BK221.out 2
                have hfz45_3 := blk_frozen BK221.out 3
                have hfz45_4 := blk_frozen BK221.out 4
                have hfz45_5 := blk_frozen BK221.out 5
                go_wp2_with (first | ((with_reducible refine gate_callee (f := 48) rfl ?_); refine goesL_ (some 39) rfl rfl Try.func48 (by kernel_rfl) rfl #[.agg #[.int .u64 t212, .int .u64 t213, .int .i64 t214, .int .i64 t215, .int .u64 t216, .slice Ao12 t217.length co12]] rfl (by (try simp only [List.map_toArray, List.map_cons, List.map_nil]); first | done | rfl | (simp only [List.length_drop, List.length_take]; rfl)) ?_; (with_reducible refine (keygram_Bytes.calls t212 t213 t214 t215 t216 _ _ t217 t241 t244 _ ?side1 ?side2 A30.out).mono ?_); (case side1 => repeat (first | exact (Kd.N_reads' HO_222005.out).2.2 | (with_reducible refine Kd.C_alloc ?_ _) | (with_reducible refine Kd.C_drewN ?_ _) | (with_reducible refine Kd.C_drew ?_))); (case side2 => exact (Kd.N_reads' HO_222005.out).2.1); rintro e w46 ⟨v242, rfl, ho0, hb⟩; refine ⟨_, rfl, ?_⟩; have n0_ := Aside0.mk (Kd.N_elder' (by (with_reducible repeat (first | apply Kd.N_alloc | apply Kd.N_drewN | apply Kd.N_drew)); exact HO_222005.out) (Kd.R_base ho0) hb); have n1_ := Aside0.mk (Kd.R_below (by (with_reducible repeat (first | apply Kd.R_alloc | apply Kd.R_drewN | apply Kd.R_drew)); exact HO_232005.out) hb); have n2_ := Aside0.mk (Kd.R_lower ho0 (below_size (by repeat (first | (with_reducible first | exact HB.out | apply below_alloc | apply pw_below_drewN | apply below_drew1 | refine below_set ?_ GE221.out | refine below_set ?_ GE231.out) | exact HB.out)))); have n3_ := Aside0.mk (blk_below (g := gb221) (o := .cells #[.int .u64 t212, .int .u64 t213, .int .i64 t214, .int .i64 t215, .int .u64 t216, .slice Ao12 t217.length co12] 66 (0, 0)) (by (with_reducible repeat (first | refine blk_drewN ?_ _ | refine blk_drew ?_ | refine blk_alloc ?_ _)); exact BK221.out) hb); have n4_ := Aside0.mk (blk_below (g := gb231) (o := .cells #[.int .u64 t222, .int .u64 t223, .int .i64 t224, .int .i64 t225, .int .u64 t226, .slice Ao17 t227.length co17] 71 (0, 0)) (by (with_reducible repeat (first | refine blk_drewN ?_ _ | refine blk_drew ?_ | refine blk_alloc ?_ _)); exact BK231.out) hb); have n5_ := Aside0.mk (below_step (by repeat (first | (with_reducible first | exact HB.out | apply below_alloc | apply pw_below_drewN | apply below_drew1 | refine below_set ?_ GE221.out | refine below_set ?_ GE231.out) | exact HB.out)) hb); clear HO_222005; clear HO_232005; clear BK221; clear BK231; clear HB; have HO_222005 := n0_; have HO_232005 := n1_; have HO243 := n2_; have BK221 := n3_; have BK231 := n4_; have HB := n5_; clear n0_ n1_ n2_ n3_ n4_ n5_; (try clear hb); (try clear hb2); (try clear hk); (try clear hi); (try clear ho0)) | ((with_reducible refine gate_callee (f := 39) rfl ?_); refine goesL_ (some 42) rfl rfl Try.func39 (by kernel_rfl) rfl #[] rfl (by (try simp only [List.map_toArray, List.map_cons, List.map_nil]); first | done | rfl | (simp only [List.length_drop, List.length_take]; rfl)) ?_; (with_reducible refine (prolepsislaw14_known.calls kj6  false _ A31.out).mono ?_); rintro e w47 ⟨rfl, hb⟩; refine ⟨_, rfl, ?_⟩; have n0_ := Aside0.mk (Kd.N_below (by (with_reducible repeat (first | apply Kd.N_alloc | apply Kd.N_drewN | apply Kd.N_drew)); exact HO_222005.out) hb); have n1_ := Aside0.mk (Kd.R_below (by (with_reducible repeat (first | apply Kd.R_alloc | apply Kd.R_drewN | apply Kd.R_drew)); exact HO_232005.out) hb); have n2_ := Aside0.mk (Kd.R_below (by (with_reducible repeat (first | apply Kd.R_alloc | apply Kd.R_drewN | apply Kd.R_drew)); exact HO243.out) hb); have n3_ := Aside0.mk (blk_below (g := gb221) (o := .cells #[.int .u64 t212, .int .u64 t213, .int .i64 t214, .int .i64 t215, .int .u64 t216, .slice Ao12 t217.length co12] 66 (0, 0)) (by (with_reducible repeat (first | refine blk_drewN ?_ _ | refine blk_drew ?_ | refine blk_alloc ?_ _)); exact BK221.out) hb); have n4_ := Aside0.mk (blk_below (g := gb231) (o := .cells #[.int .u64 t222, .int .u64 t223, .int .i64 t224, .int .i64 t225, .int .u64 t226, .slice Ao17 t227.length co17] 71 (0, 0)) (by (with_reducible repeat (first | refine blk_drewN ?_ _ | refine blk_drew ?_ | refine blk_alloc ?_ _)); exact BK231.out) hb); have n5_ := Aside0.mk (below_step (by repeat (first | (with_reducible first | exact HB.out | apply below_alloc | apply pw_below_drewN | apply below_drew1 | refine below_set ?_ GE221.out | refine below_set ?_ GE231.out) | exact HB.out)) hb); clear HO_222005; clear HO_232005; clear HO243; clear BK221; clear BK231; clear HB; have HO_222005 := n0_; have HO_232005 := n1_; have HO243 := n2_; have BK221 := n3_; have BK231 := n4_; have HB := n5_; clear n0_ n1_ n2_ n3_ n4_ n5_; (try clear hb); (try clear hb2); (try clear hk); (try clear hi)))
                go_ret
                exact ⟨by first | rfl | (simp [errW_none, errW_some] <;> rfl) | (simp only [← hji2]; first | rfl | (simp [errW_none, errW_some] <;> rfl)) | (simp [*, errW_none, errW_some] <;> rfl), by repeat (first | (with_reducible first | exact HB.out | apply below_alloc | apply pw_below_drewN | apply below_drew1 | refine below_set ?_ GE221.out | refine below_set ?_ GE231.out) | exact HB.out)⟩
            · rw [if_neg c29] at H
              have c29b0 : (t220 == 0) = false := beq_eq_false_iff_ne.mpr c29
              have c29b1 : (t220 != 0) = true := bne_iff_ne.mpr c29
              replace H := Option.bind_eq_some_iff.mp H
              obtain ⟨t247, A480, H⟩ := H
              replace H : (some t247) = some r := H
              have A48 := Aside0.mk A480
              clear A480
              obtain rfl := Option.some.inj H
              go_wp2_with (first | ((with_reducible refine gate_callee (f := 39) rfl ?_); refine goesL_ (some 36) rfl rfl Try.func39 (by kernel_rfl) rfl #[] rfl (by (try simp only [List.map_toArray, List.map_cons, List.map_nil]); first | done | rfl | (simp only [List.length_drop, List.length_take]; rfl)) ?_; (with_reducible refine (prolepsislaw14_known.calls kj6  t247 _ A48.out).mono ?_); rintro e w49 ⟨rfl, hb⟩; refine ⟨_, rfl, ?_⟩; have n0_ := Aside0.mk (Kd.N_below (by (with_reducible repeat (first | apply Kd.N_alloc | apply Kd.N_drewN | apply Kd.N_drew)); exact HO_222005.out) hb); have n1_ := Aside0.mk (Kd.R_below (by (with_reducible repeat (first | apply Kd.R_alloc | apply Kd.R_drewN | apply Kd.R_drew)); exact HO_232005.out) hb); have n2_ := Aside0.mk (blk_below (g := gb221) (o := .cells #[.int .u64 t212, .int .u64 t213, .int .i64 t214, .int .i64 t215, .int .u64 t216, .slice Ao12 t217.length co12] 66 (0, 0)) (by (with_reducible repeat (first | refine blk_drewN ?_ _ | refine blk_drew ?_ | refine blk_alloc ?_ _)); exact BK221.out) hb); have n3_ := Aside0.mk (blk_below (g := gb231) (o := .cells #[.int .u64 t222, .int .u64 t223, .int .i64 t224, .int .i64 t225, .int .u64 t226, .slice Ao17 t227.length co17] 71 (0, 0)) (by (with_reducible repeat (first | refine blk_drewN ?_ _ | refine blk_drew ?_ | refine blk_alloc ?_ _)); exact BK231.out) hb); have n4_ := Aside0.mk (below_step (by repeat (first | (with_reducible first | exact HB.out | apply below_alloc | apply pw_below_drewN | apply below_drew1 | refine below_set ?_ GE221.out | refine below_set ?_ GE231.out) | exact HB.out)) hb); clear HO_222005; clear HO_232005; clear BK221; clear BK231; clear HB; have HO_222005 := n0_; have HO_232005 := n1_; have BK221 := n2_; have BK231 := n3_; have HB := n4_; clear n0_ n1_ n2_ n3_ n4_; (try clear hb); (try clear hb2); (try clear hk); (try clear hi)))
              go_ret
              exact ⟨by first | rfl | (simp [errW_none, errW_some] <;> rfl) | (simp only [← hji2]; first | rfl | (simp [errW_none, errW_some] <;> rfl)) | (simp [*, errW_none, errW_some] <;> rfl), by repeat (first | (with_reducible first | exact HB.out | apply below_alloc | apply pw_below_drewN | apply below_drew1 | refine below_set ?_ GE221.out | refine below_set ?_ GE231.out) | exact HB.out)⟩
    · rw [if_neg c4] at H
      exact absurd H (by simp)
  · rw [if_neg c3] at H
    exact absurd H (by simp)

/-- THE ONE PURE STATEMENT of prolepsislaw14_KeygramParses: yours. -/
def prolepsislaw14_KeygramParses.Pure : Prop := ∀ (l0 : List Int), l0.length ≤ maxLen → l0.length * 1 ≤ 140737488351232 → (∀ x ∈ l0, (Lit.int .u8 x).wf = true) → ∃ k, prolepsislaw14_KeygramParses.f k l0 = some true
theorem prolepsislaw14_KeygramParses.walk (P : prolepsislaw14_KeygramParses.Pure) (a0 : Option Addr) (len0 cap0 : Nat) (z0 : List Int) (w : World) (w0 : (a0 = none ∧ len0 = 0 ∧ cap0 = 0 ∧ z0 = []) ∨ ∃ x, a0 = some x ∧ len0 ≤ cap0 ∧ cap0 ≤ maxLen ∧ z0.length = cap0 ∧ (∀ i, i < z0.length → w.cell? (x.add i) = some (.int .u8 (z0.getD i 0))) ∧ ∀ n ∈ z0, (Lit.int .u8 n).wf = true) (y0 : len0 * 1 ≤ 140737488351232) :
    Calls Try.prog 10 #[.slice a0 len0 cap0] w fun e w' => e = .returned (.bool true) ∧ Below w.heap.size w w' := by
  obtain ⟨l0, rfl, hr0, hm0, hw0, hc0⟩ := ReadsInt.ofRowC w0
  obtain ⟨k, h⟩ := P l0 hm0 y0 hw0
  refine (prolepsislaw14_KeygramParses.calls k _ _ l0 true w (Kd.C_of_reads (d := (0 : Int)) (h1 := fun _ => rfl) hr0) hc0 h).mono ?_
  rintro e w' ⟨rfl, hd⟩
  exact ⟨rfl, hd⟩

end Go.Proofs.Ytpephndecdkfhaa.PKeygramParses
