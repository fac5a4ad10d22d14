/- LineMakes: what its proof leads to. No condition. -/
import Derived.Test.YtblcmcdifgclcaaPLineMakesx0qLineMakes
import Derived.Test.YtblcmcdifgclcaaPLineMakesx1qLineMakes
import Derived.Test.YtblcmcdifgclcaaPLineMakesx3qLineMakes
import Derived.Test.YtblcmcdifgclcaaShortqLineMakes
namespace Go.Proofs.Ytblcmcdifgclcaa.PLineMakes
open Go.RowKit Go.Proofs.YtblcmcdifgclcaaW.PrintWords Go.Proofs.YtblcmcdifgclcaaW.PrintLast Go.Proofs.YtblcmcdifgclcaaW.PrintMore
attribute [local go_sem] isSome_setCell max2_int min2_int max_two min_two
set_option linter.unusedVariables false
set_option linter.unusedSimpArgs false

attribute [local go_sem high] eqA26
def line_blanks.l0 : Nat → List (S26) → Int → Int → Int → Int → Int → Option ((List (S26)))
  | 0, _, _, _, _, _, _ => none
  | k + 1, x5, x6, x7, x161000, x161001, x161002 => if x7 < x6 then ((cell_Blank.f x161000 x161001 x161002).bind fun bt161 => (if x5.length < 8796093022208 then (line_blanks.l0 k (x5 ++ [(⟨bt161.1, (⟨bt161.2.1, bt161.2.2.1⟩ : S22), bt161.2.2.2.1, (⟨bt161.2.2.2.2.1, bt161.2.2.2.2.2.1, bt161.2.2.2.2.2.2⟩ : S24)⟩ : S26)]) x6 (wrap64 (x7 + 1)) x161000 x161001 x161002) else (none))) else (some x5)
def line_blanks.f (k : Nat) (a0 : Int) (a1_0 : Int) (a1_1 : Int) (a1_2 : Int) : Option ((List (S26))) := line_blanks.l0 k ([] : List (S26)) a0 0 a1_0 a1_1 a1_2
set_option maxHeartbeats 8000000 in
set_option maxRecDepth 100000 in
theorem line_blanks.calls (k : Nat) (a0 : Int) (a1_0 : Int) (a1_1 : Int) (a1_2 : Int) (r : List (S26)) (w : World) (h : line_blanks.f k a0 a1_0 a1_1 a1_2 = some r) :
    Calls Try.prog 99 #[.int .i64 a0, .agg #[.int .u8 a1_0, .int .u8 a1_1, .int .u8 a1_2]] w fun e w' => ∃ v0_ : Value, e = .returned (v0_) ∧ Kd.R k26 26 w' w.heap.size (fun _ => True) v0_ r ∧ Below w.heap.size w w' := by
  have hu24 := Try.underlying24
  have HB := aS (Below.refl w.heap.size w)
  have H : (line_blanks.l0 k ([] : List (S26)) a0 0 a1_0 a1_1 a1_2) = some r := h
  clear h
  have H' := Aside0.mk H
  clear H
  go_enter Try.func99, Try.ntmps99
  go_wp2_with (first | ((with_reducible refine gate_dst (N := 3) rfl ?_); refine box_event ?hg (N := 3) ?hd (cs := #[.int .u8 a1_0, .int .u8 a1_1, .int .u8 a1_2]) (t := 24) ?hr ?_; (case hd => rfl); (case hg => rfl); (case hr => first | (go_simp; done) | (go_simp; rfl)); intro gb160 hg w3 hbox hb; have n0_ := aS (below_step (by repeat (first | (with_reducible first | exact HB.out | apply lA | apply lN | apply lD) | exact HB.out)) hb); have n1_ := aS (hbox); have n2_ := aS ((by rw [hg]; exact (below_size (by repeat (first | (with_reducible first | exact HB.out | apply lA | apply lN | apply lD) | exact HB.out))) : w.heap.size ≤ gb160)); have n3_ := aS ((by rw [hg]; exact (below_size (by repeat (first | (with_reducible first | exact HB.out | apply lA | apply lN | apply lD) | exact HB.out))) : w.heap.size ≤ gb160)); clear HB; have HB := n0_; have BK160 := n1_; have GW160 := n2_; have GE160 := n3_; clear n0_ n1_ n2_ n3_; clear hb hbox hg))
  go_loopg [5, 7] k (fun kq v5 v7 w' => ∃ (x5_1 : List (S26)) (x7_1 : Int), v7 = .int .i64 x7_1 ∧ Aside0 (line_blanks.l0 kq x5_1 a0 x7_1 a1_0 a1_1 a1_2 = some r) ∧ Aside0 (kq ≤ k) ∧ Aside0 (Kd.R k26 26 w' w.heap.size (fun _ => True) v5 x5_1) ∧ Aside0 (w'.heap[gb160]? = some (.cells #[.int .u8 a1_0, .int .u8 a1_1, .int .u8 a1_2] 24 (0, 0))) ∧ Aside0 (Below w.heap.size w w'))
  case atStart => exact ⟨(([] : List (S26))), (0), (by first | rfl | (simp; done) | (simp [*]; done)), H', ⟨Nat.le_refl _⟩, ⟨by first | exact Kd.R_nil _ _ _ _ _ | exact Kd.N_nil _ _ _ _ _ | exact Kd.V_nil _ _ _ _ _ | exact Kd.Q_nil _ _ _ _ _ | exact Kd.S_nil _ _ _ _ _⟩, ⟨by (with_reducible repeat (first | apply bN | apply bD | apply bA)); exact BK160.out⟩, ⟨by repeat (first | (with_reducible first | exact HB.out | apply lA | apply lN | apply lD | refine below_set ?_ GE160.out) | exact HB.out)⟩⟩
  case round =>
    clear H'
    try clear p2
    obtain ⟨x5_1, x7_1, rfl, HA, HK1, HO_5, BK160, HB⟩ := hrel
    cases gk with
    | zero => exact absurd HA.out (by simp [line_blanks.l0])
    | succ k1 =>
      have H := HA.out
      clear HA
      simp only [line_blanks.l0] at H
      by_cases c4 : x7_1 < a0
      · rw [if_pos c4] at H
        have c4b0 : decide (x7_1 < a0) = true := decide_eq_true c4
        clear c4
        replace H := Option.bind_eq_some_iff.mp H
        obtain ⟨⟨t161, t162, t163, t164, t165, t166, t167⟩, A50, H⟩ := H
        try dsimp only at H
        have A5 := Aside0.mk A50
        clear A50
        by_cases c6 : x5_1.length < 8796093022208
        · rw [if_pos c6] at H
          have LMc6 := Aside0.mk c6
          clear c6
          obtain ⟨y168, hy168⟩ : ∃ y_ : List (S26), y_ = (x5_1 ++ [(⟨t161, (⟨t162, t163⟩ : S22), t164, (⟨t165, t166, t167⟩ : S24)⟩ : S26)]) := ⟨_, rfl⟩
          replace H : (line_blanks.l0 k1 y168 a0 (wrap64 (x7_1 + 1)) a1_0 a1_1 a1_2) = some r := by first | (rw [hy168]; with_reducible exact H) | (have H2_ := (Option.bind_some _ _).symm.trans H; rw [hy168]; with_reducible exact H2_) | (have H2_ := (Option.bind_some _ _).symm.trans H; with_reducible exact H2_) | with_reducible exact H | (rw [hy168]; exact H) | exact H
          have Ny168 := Aside0.mk hy168
          clear hy168
          have H' := Aside0.mk H
          clear H
          obtain ⟨hcz7_0, hcz7_1, hcz7_2, hfz7_0, hfz7_1, hfz7_2⟩ := cel3 BK160.out
          go_wp2_with (first | ((with_reducible refine gate_callee (f := 21) rfl ?_); refine goesL_ (some 11) rfl rfl Try.func21 (by kernel_rfl) rfl #[.agg #[.int .u8 a1_0, .int .u8 a1_1, .int .u8 a1_2]] rfl (by (try simp only [List.map_toArray, List.map_cons, List.map_nil]); first | done | rfl | (simp only [List.length_drop, List.length_take]; rfl)) ?_; (with_reducible refine (cell_Blank.calls a1_0 a1_1 a1_2 t161 t162 t163 t164 t165 t166 t167 _ A5.out).mono ?_); rintro e w8 ⟨rfl, hb⟩; refine ⟨_, rfl, ?_⟩; have n0_ := aS (Kd.R_below (by (with_reducible repeat (first | apply rA | apply rN | apply rD)); exact HO_5.out) hb); have n1_ := aS (blk_below (g := gb160) (o := .cells #[.int .u8 a1_0, .int .u8 a1_1, .int .u8 a1_2] 24 (0, 0)) (by (with_reducible repeat (first | apply bN | apply bD | apply bA)); exact BK160.out) hb); have n2_ := aS (below_step (by repeat (first | (with_reducible first | exact HB.out | apply lA | apply lN | apply lD | refine below_set ?_ GE160.out) | exact HB.out)) hb); clear HO_5; clear BK160; clear HB; have HO_5 := n0_; have BK160 := n1_; have HB := n2_; clear n0_ n1_ n2_; (try clear hb); (try clear hb2); (try clear hk); (try clear hi)) | ((with_reducible refine gate_builtin (b := .append) (xs := #[.tmp 9, .tmp 12]) rfl ?_); at_builtin; refine Kd.R_append k26 (w0 := w) w.heap.size rfl (.tmp 9) (.tmp 12) 58 26 (.agg #[(.int .i32 0), (.int .i32 0), (.int .i32 0), (.int .u8 0), (.int .u8 0), (.int .u8 0), (.int .u8 0)]) 16 rfl Try.underlying58 info26 rfl (by decide) (by omega) u5 x5_1 (⟨t161, (⟨t162, t163⟩ : S22), t164, (⟨t165, t166, t167⟩ : S24)⟩ : S26) [.int .i32 t161, .int .i32 t162, .int .i32 t163, .int .u8 t164, .int .u8 t165, .int .u8 t166, .int .u8 t167] (fun _ => True) (fun _ => False) rfl rfl ?aP (fun _ hk => hk.elim) ?aF ?aO ?aB ?aS ?aL ?_; (case aP => exact k26_mkM _ _ _ (⟨t161, (⟨t162, t163⟩ : S22), t164, (⟨t165, t166, t167⟩ : S24)⟩ : S26)); (case aB => exact (by repeat (first | (with_reducible first | exact HB.out | apply lA | apply lN | apply lD | refine below_set ?_ GE160.out) | exact HB.out))); (case aF => exact (fun _ _ => trivial)); (case aO => exact (by (with_reducible repeat (first | apply rA | apply rN | apply rD)); exact HO_5.out)); (case aS => exact (below_size (by repeat (first | (with_reducible first | exact HB.out | apply lA | apply lN | apply lD | refine below_set ?_ GE160.out) | exact HB.out)))); (case aL => have := LMc6.out; omega); intro v169 w9 ho hb hg hat; rw [← Ny168.out] at ho; have n0_ := aS (blk_grown (g := gb160) (o := .cells #[.int .u8 a1_0, .int .u8 a1_1, .int .u8 a1_2] 24 (0, 0)) (by (with_reducible repeat (first | apply bN | apply bD | apply bA)); exact BK160.out) hg (Kd.R_ne HO_5.out BK160.out (by decide))); have n1_ := aS (hb); have n2_ := aS (ho); clear BK160; clear HB; clear HO_5; have BK160 := n0_; have HB := n1_; have HO170 := n2_; clear n0_ n1_ n2_; clear ho hb hg hat))
          go_roundg k1
          case measure => have := HK1.out; omega
          case rel => exact ⟨(y168), (wrap64 (x7_1 + 1)), (by first | rfl | (simp; done) | (simp [*]; done)), H', ⟨by have := HK1.out; omega⟩, ⟨by (with_reducible repeat (first | apply rA | apply rN | apply rD)); exact HO170.out⟩, ⟨by (with_reducible repeat (first | apply bN | apply bD | apply bA)); exact BK160.out⟩, ⟨by repeat (first | (with_reducible first | exact HB.out | apply lA | apply lN | apply lD | refine below_set ?_ GE160.out) | exact HB.out)⟩⟩
        · rw [if_neg c6] at H
          exact absurd H (by simp)
      · rw [if_neg c4] at H
        have c4b0 : decide (x7_1 < a0) = false := decide_eq_false c4
        clear c4
        obtain rfl := Option.some.inj H
        go_wp2
        go_ret
        exact ⟨_, by first | rfl | (simp <;> rfl) | (simp [*] <;> rfl), by (with_reducible repeat (first | apply rA | apply rN | apply rD)); exact HO_5.out, by repeat (first | (with_reducible first | exact HB.out | apply lA | apply lN | apply lD | refine below_set ?_ GE160.out) | exact HB.out)⟩

def line_Fit.f (k : Nat) (l0 : List (S26)) (a1 : Int) : Option ((List (S26))) := (line_length.f a1).bind fun t171 => (if t171 ≤ (l0.length : Int) then (if 0 ≤ t171 then ((line_Mend.f (l0.take (t171 : Int).toNat)).bind fun t176 => (some t176)) else (none)) else ((cell_Cell_95.f l0).bind fun t179 => ((line_blanks.f k (wrap64 (t171 - (l0.length : Int))) 0 0 0).bind fun t182 => (if t179.length + t182.length < 8796093022208 then ((line_Mend.f (t179 ++ t182)).bind fun t188 => (some t188)) else (none)))))
set_option maxHeartbeats 8000000 in
set_option maxRecDepth 100000 in
theorem line_Fit.calls (k : Nat) (A0 : Option Addr) (c0 : Nat) (l0 : List (S26)) (a1 : Int) (r : List (S26)) (w : World) (hr0 : Kd.C k26 w A0 l0.length l0) (hc0 : l0.length ≤ c0) (h : line_Fit.f k l0 a1 = some r) :
    Calls Try.prog 39 #[.slice A0 l0.length c0, .int .i64 a1] w fun e w' => ∃ v0_ : Value, e = .returned (v0_) ∧ Kd.R k26 26 w' w.heap.size (fun _ => True) v0_ r ∧ Below w.heap.size w w' := by
  have hu24 := Try.underlying24
  have HR0 := Aside0.mk hr0
  have HC0 := Aside0.mk hc0
  clear hr0 hc0
  have HB := aS (Below.refl w.heap.size w)
  have H : ((line_length.f a1).bind fun t171 => (if t171 ≤ (l0.length : Int) then (if 0 ≤ t171 then ((line_Mend.f (l0.take (t171 : Int).toNat)).bind fun t176 => (some t176)) else (none)) else ((cell_Cell_95.f l0).bind fun t179 => ((line_blanks.f k (wrap64 (t171 - (l0.length : Int))) 0 0 0).bind fun t182 => (if t179.length + t182.length < 8796093022208 then ((line_Mend.f (t179 ++ t182)).bind fun t188 => (some t188)) else (none)))))) = some r := h
  clear h
  replace H := Option.bind_eq_some_iff.mp H
  obtain ⟨t171, A30, H⟩ := H
  try dsimp only at H
  have A3 := Aside0.mk A30
  clear A30
  by_cases c4 : t171 ≤ (l0.length : Int)
  · rw [if_pos c4] at H
    have c4b0 : decide (t171 ≤ (l0.length : Int)) = true := decide_eq_true c4
    clear c4
    by_cases c5 : 0 ≤ t171
    · rw [if_pos c5] at H
      have c5b0 := eq_true c5
      have c5b1 : decide (0 ≤ t171) = true := decide_eq_true c5
      clear c5
      have c6b0 := eq_true (of_decide_eq_true (by first | (with_reducible assumption) | assumption) : t171 ≤ (l0.length : Int))
      obtain ⟨y172, hy172⟩ : ∃ y_ : List (S26), y_ = (l0.take (t171 : Int).toNat) := ⟨_, rfl⟩
      replace H : ((line_Mend.f y172).bind fun t176 => (some t176)) = some r := by first | (rw [hy172]; with_reducible exact H) | (have H2_ := (Option.bind_some _ _).symm.trans H; rw [hy172]; with_reducible exact H2_) | (have H2_ := (Option.bind_some _ _).symm.trans H; with_reducible exact H2_) | with_reducible exact H | (rw [hy172]; exact H) | exact H
      have Ny172 := Aside0.mk hy172
      clear hy172
      replace H := Option.bind_eq_some_iff.mp H
      obtain ⟨t176, A70, H⟩ := H
      try dsimp only at H
      have A7 := Aside0.mk A70
      clear A70
      obtain rfl := Option.some.inj H
      go_enter Try.func39, Try.ntmps39
      go_wp2_with (first | ((with_reducible refine gate_callee (f := 98) rfl ?_); refine goesL_ (some 6) rfl rfl Try.func98 (by kernel_rfl) rfl #[.int .i64 a1] rfl (by (try simp only [List.map_toArray, List.map_cons, List.map_nil]); first | done | rfl | (simp only [List.length_drop, List.length_take]; rfl)) ?_; (with_reducible refine (line_length.calls a1 t171 _ A3.out).mono ?_); rintro e w8 ⟨rfl, hb⟩; refine ⟨_, rfl, ?_⟩; have n0_ := aS (below_step (by repeat (first | (with_reducible first | exact HB.out | apply lA | apply lN | apply lD) | exact HB.out)) hb); clear HB; have HB := n0_; clear n0_; (try clear hb); (try clear hb2); (try clear hk); (try clear hi); have q9 : (t171 : Int) ≤ ((l0.length : Int) : Int) := of_decide_eq_true (by first | (with_reducible assumption) | assumption); obtain ⟨i09, hi09, _, hsz9, _⟩ := info_parts info26; have hroom9 : l0.length ≤ c0 := HC0.out; have hC9 : Kd.C k26 _ A0 l0.length l0 := HR0.out; have hcut9 := cut_to (P := Try.prog) 58 26 .i64 Try.underlying58 hi09 A0 l0.length c0 t171 (of_decide_eq_true (by first | (with_reducible assumption) | assumption)) q9 hroom9; have hr9 := Kd.C_take (m := (t171 : Int).toNat) hC9 (by omega); have hy9 : y172.length = (t171 : Int).toNat := (by rw [Ny172.out, List.length_take]; omega); rw [← Ny172.out] at hr9; rw [← hy9] at hcut9; have HR175 := Aside0.mk hr9; have HC175 := aS (show y172.length ≤ c0 from by omega); clear hr9 hC9 hroom9 hi09 hsz9; have KY9 := Aside0.mk hy9; clear hy9; replace q9 := eq_true q9) | ((with_reducible refine gate_callee (f := 49) rfl ?_); refine goesL_ (some 14) rfl rfl Try.func49 (by kernel_rfl) rfl #[.slice A0 y172.length c0] rfl (by (try simp only [List.map_toArray, List.map_cons, List.map_nil]); first | done | rfl | (simp only [List.length_drop, List.length_take]; rfl)) ?_; (with_reducible refine (line_Mend.calls _ _ y172 t176 _ ?side1 ?side2 A7.out).mono ?_); (case side1 => repeat (first | exact (Kd.C_below HR175.out HB.out) | (with_reducible refine Kd.C_alloc ?_ _) | (with_reducible refine Kd.C_drewN ?_ _) | (with_reducible refine Kd.C_drew ?_))); (case side2 => exact HC175.out); rintro e w10 ⟨v177, rfl, ho0, hb⟩; refine ⟨_, rfl, ?_⟩; have n0_ := aS (Kd.R_lower ho0 (below_size (by repeat (first | (with_reducible first | exact HB.out | apply lA | apply lN | apply lD) | exact HB.out)))); have n1_ := aS (below_step (by repeat (first | (with_reducible first | exact HB.out | apply lA | apply lN | apply lD) | exact HB.out)) hb); clear HB; have HO178 := n0_; have HB := n1_; clear n0_ n1_; (try clear hb); (try clear hb2); (try clear hk); (try clear hi); (try clear ho0)))
      go_ret
      exact ⟨_, by first | rfl | (simp <;> rfl) | (simp [*] <;> rfl), by (with_reducible repeat (first | apply rA | apply rN | apply rD)); exact HO178.out, by repeat (first | (with_reducible first | exact HB.out | apply lA | apply lN | apply lD) | exact HB.out)⟩
    · rw [if_neg c5] at H
      exact absurd H (by simp)
  · rw [if_neg c4] at H
    have c4b0 : decide (t171 ≤ (l0.length : Int)) = false := decide_eq_false c4
    clear c4
    replace H := Option.bind_eq_some_iff.mp H
    obtain ⟨t179, A110, H⟩ := H
    try dsimp only at H
    have A11 := Aside0.mk A110
    clear A110
    replace H := Option.bind_eq_some_iff.mp H
    obtain ⟨t182, A120, H⟩ := H
    try dsimp only at H
    have A12 := Aside0.mk A120
    clear A120
    by_cases c13 : t179.length + t182.length < 8796093022208
    · rw [if_pos c13] at H
      have LMc13 := Aside0.mk c13
      clear c13
      obtain ⟨y185, hy185⟩ : ∃ y_ : List (S26), y_ = (t179 ++ t182) := ⟨_, rfl⟩
      replace H : ((line_Mend.f y185).bind fun t188 => (some t188)) = some r := by first | (rw [hy185]; with_reducible exact H) | (have H2_ := (Option.bind_some _ _).symm.trans H; rw [hy185]; with_reducible exact H2_) | (have H2_ := (Option.bind_some _ _).symm.trans H; with_reducible exact H2_) | with_reducible exact H | (rw [hy185]; exact H) | exact H
      have Ny185 := Aside0.mk hy185
      clear hy185
      replace H := Option.bind_eq_some_iff.mp H
      obtain ⟨t188, A140, H⟩ := H
      try dsimp only at H
      have A14 := Aside0.mk A140
      clear A140
      obtain rfl := Option.some.inj H
      go_enter Try.func39, Try.ntmps39
      go_wp2_with (first | ((with_reducible refine gate_callee (f := 98) rfl ?_); refine goesL_ (some 6) rfl rfl Try.func98 (by kernel_rfl) rfl #[.int .i64 a1] rfl (by (try simp only [List.map_toArray, List.map_cons, List.map_nil]); first | done | rfl | (simp only [List.length_drop, List.length_take]; rfl)) ?_; (with_reducible refine (line_length.calls a1 t171 _ A3.out).mono ?_); rintro e w15 ⟨rfl, hb⟩; refine ⟨_, rfl, ?_⟩; have n0_ := aS (below_step (by repeat (first | (with_reducible first | exact HB.out | apply lA | apply lN | apply lD) | exact HB.out)) hb); clear HB; have HB := n0_; clear n0_; (try clear hb); (try clear hb2); (try clear hk); (try clear hi)) | ((with_reducible refine gate_callee (f := 95) rfl ?_); refine goesL_ (some 16) rfl rfl Try.func95 (by kernel_rfl) rfl #[.slice A0 l0.length c0] rfl (by (try simp only [List.map_toArray, List.map_cons, List.map_nil]); first | done | rfl | (simp only [List.length_drop, List.length_take]; rfl)) ?_; (with_reducible refine (cell_Cell_95.calls _ _ l0 t179 _ ?side1 ?side2 A11.out).mono ?_); (case side1 => repeat (first | exact (Kd.C_below HR0.out HB.out) | (with_reducible refine Kd.C_alloc ?_ _) | (with_reducible refine Kd.C_drewN ?_ _) | (with_reducible refine Kd.C_drew ?_))); (case side2 => exact HC0.out); rintro e w16 ⟨v180, rfl, ho0, hb⟩; refine ⟨_, rfl, ?_⟩; have n0_ := aS (Kd.R_lower ho0 (below_size (by repeat (first | (with_reducible first | exact HB.out | apply lA | apply lN | apply lD) | exact HB.out)))); have n1_ := aS (below_step (by repeat (first | (with_reducible first | exact HB.out | apply lA | apply lN | apply lD) | exact HB.out)) hb); clear HB; have HO181 := n0_; have HB := n1_; clear n0_ n1_; (try clear hb); (try clear hb2); (try clear hk); (try clear hi); (try clear ho0)) | ((with_reducible refine gate_callee (f := 99) rfl ?_); refine goesL_ (some 22) rfl rfl Try.func99 (by kernel_rfl) rfl #[.int .i64 (wrap64 (t171 - (l0.length : Int))), .agg #[.int .u8 0, .int .u8 0, .int .u8 0]] rfl (by (try simp only [List.map_toArray, List.map_cons, List.map_nil]); first | done | rfl | (simp only [List.length_drop, List.length_take]; rfl)) ?_; (with_reducible refine (line_blanks.calls k (wrap64 (t171 - (l0.length : Int))) 0 0 0 t182 _ A12.out).mono ?_); rintro e w17 ⟨v183, rfl, ho0, hb⟩; refine ⟨_, rfl, ?_⟩; have n0_ := aS (Kd.R_elder' (by (with_reducible repeat (first | apply rA | apply rN | apply rD)); exact HO181.out) (Kd.R_base ho0) hb); have n1_ := aS (Kd.R_lower (Kd.R_new' ho0 (Kd.R_lt (by (with_reducible repeat (first | apply rA | apply rN | apply rD)); exact HO181.out))) (below_size (by repeat (first | (with_reducible first | exact HB.out | apply lA | apply lN | apply lD) | exact HB.out)))); have n2_ := aS (below_step (by repeat (first | (with_reducible first | exact HB.out | apply lA | apply lN | apply lD) | exact HB.out)) hb); clear HO181; clear HB; have HO181 := n0_; have HO184 := n1_; have HB := n2_; clear n0_ n1_ n2_; (try clear hb); (try clear hb2); (try clear hk); (try clear hi); (try clear ho0); obtain ⟨Ao19, co19, eo19⟩ := Kd.R_slice HO184.out; subst eo19) | ((with_reducible refine gate_builtin (b := .append) (xs := #[.tmp 16, .tmp 22]) rfl ?_); at_builtin; refine Kd.R_append_rows k26 (w0 := w) w.heap.size rfl (.tmp 16) (.tmp 22) 58 26 (.agg #[(.int .i32 0), (.int .i32 0), (.int .i32 0), (.int .u8 0), (.int .u8 0), (.int .u8 0), (.int .u8 0)]) 16 rfl Try.underlying58 info26 rfl (by decide) (by omega) v180 t179 t182 _ _ _ (fun k_ => some k_ ≠ (.slice Ao19 t182.length co19 : Value).ownBlock) (fun _ => False) rfl rfl ?aO ?aR (fun _ _ h => h) (fun _ h => h.elim) ?aF ?aB ?aS ?aL ?_; (case aR => repeat (first | exact (Kd.R_reads' HO184.out).2.2 | (with_reducible refine Kd.C_alloc ?_ _) | (with_reducible refine Kd.C_drewN ?_ _) | (with_reducible refine Kd.C_drew ?_))); (case aB => exact (by repeat (first | (with_reducible first | exact HB.out | apply lA | apply lN | apply lD) | exact HB.out))); (case aF => exact (fun k_ hk => Kd.fresh' (Kd.R_lt (by (with_reducible repeat (first | apply rA | apply rN | apply rD)); exact HO184.out)) k_ hk)); (case aO => exact (by (with_reducible repeat (first | apply rA | apply rN | apply rD)); exact Kd.R_mono HO181.out (fun _ hk => hk.2))); (case aS => exact (below_size (by repeat (first | (with_reducible first | exact HB.out | apply lA | apply lN | apply lD) | exact HB.out)))); (case aL => have := LMc13.out; omega); intro v186 w18 ho hb hg hat; rw [← Ny185.out] at ho; have n0_ := aS (Kd.R_after (ok := (fun _ => True)) (by (with_reducible repeat (first | apply rA | apply rN | apply rD)); exact HO184.out) hg hat); have n1_ := aS (hb); have n2_ := aS (ho); clear HO184; clear HB; clear HO181; have HO184 := n0_; have HB := n1_; have HO187 := n2_; clear n0_ n1_ n2_; clear ho hb hg hat; obtain ⟨Ao20, co20, eo20⟩ := Kd.R_slice HO187.out; subst eo20) | ((with_reducible refine gate_callee (f := 49) rfl ?_); refine goesL_ (some 24) rfl rfl Try.func49 (by kernel_rfl) rfl #[.slice Ao20 y185.length co20] rfl (by (try simp only [List.map_toArray, List.map_cons, List.map_nil]); first | done | rfl | (simp only [List.length_drop, List.length_take]; rfl)) ?_; (with_reducible refine (line_Mend.calls _ _ y185 t188 _ ?side1 ?side2 A14.out).mono ?_); (case side1 => repeat (first | exact (Kd.R_reads' HO187.out).2.2 | (with_reducible refine Kd.C_alloc ?_ _) | (with_reducible refine Kd.C_drewN ?_ _) | (with_reducible refine Kd.C_drew ?_))); (case side2 => exact (Kd.R_reads' HO187.out).2.1); rintro e w21 ⟨v189, rfl, ho0, hb⟩; refine ⟨_, rfl, ?_⟩; have n0_ := aS (Kd.R_elder' (by (with_reducible repeat (first | apply rA | apply rN | apply rD)); exact HO184.out) (Kd.R_base ho0) hb); have n1_ := aS (Kd.R_elder' (by (with_reducible repeat (first | apply rA | apply rN | apply rD)); exact HO187.out) (Kd.R_base ho0) hb); have n2_ := aS (Kd.R_lower (Kd.R_new' (Kd.R_new' ho0 (Kd.R_lt (by (with_reducible repeat (first | apply rA | apply rN | apply rD)); exact HO184.out))) (Kd.R_lt (by (with_reducible repeat (first | apply rA | apply rN | apply rD)); exact HO187.out))) (below_size (by repeat (first | (with_reducible first | exact HB.out | apply lA | apply lN | apply lD) | exact HB.out)))); have n3_ := aS (below_step (by repeat (first | (with_reducible first | exact HB.out | apply lA | apply lN | apply lD) | exact HB.out)) hb); clear HO184; clear HO187; clear HB; have HO184 := n0_; have HO187 := n1_; have HO190 := n2_; have HB := n3_; clear n0_ n1_ n2_ n3_; (try clear hb); (try clear hb2); (try clear hk); (try clear hi); (try clear ho0)))
      go_ret
      exact ⟨_, by first | rfl | (simp <;> rfl) | (simp [*] <;> rfl), by (with_reducible repeat (first | apply rA | apply rN | apply rD)); exact Kd.R_mono HO190.out (fun _ hk => trivial), by repeat (first | (with_reducible first | exact HB.out | apply lA | apply lN | apply lD) | exact HB.out)⟩
    · rw [if_neg c13] at H
      exact absurd H (by simp)

def line_Erase.f (k : Nat) (l0 : List (S26)) (a1 : Int) (a2 : Int) (a3_0 : Int) (a3_1 : Int) (a3_2 : Int) : Option ((List (S26))) := (line_blanks.f k (mx 0 (wrap64 ((mn (mx a2 0) (l0.length : Int)) - (mn (mx a1 0) (l0.length : Int))))) a3_0 a3_1 a3_2).bind fun t192 => ((line_laid.f l0 (mn (mx a1 0) (l0.length : Int)) t192).bind fun t195 => (some t195))
set_option maxHeartbeats 8000000 in
set_option maxRecDepth 100000 in
theorem line_Erase.calls (k : Nat) (A0 : Option Addr) (c0 : Nat) (l0 : List (S26)) (a1 : Int) (a2 : Int) (a3_0 : Int) (a3_1 : Int) (a3_2 : Int) (r : List (S26)) (w : World) (hr0 : Kd.C k26 w A0 l0.length l0) (hc0 : l0.length ≤ c0) (h : line_Erase.f k l0 a1 a2 a3_0 a3_1 a3_2 = some r) :
    Calls Try.prog 40 #[.slice A0 l0.length c0, .int .i64 a1, .int .i64 a2, .agg #[.int .u8 a3_0, .int .u8 a3_1, .int .u8 a3_2]] w fun e w' => ∃ v0_ : Value, e = .returned (v0_) ∧ Kd.R k26 26 w' w.heap.size (fun _ => True) v0_ r ∧ Below w.heap.size w w' := by
  have hu24 := Try.underlying24
  have HR0 := Aside0.mk hr0
  have HC0 := Aside0.mk hc0
  clear hr0 hc0
  have HB := aS (Below.refl w.heap.size w)
  have H : ((line_blanks.f k (mx 0 (wrap64 ((mn (mx a2 0) (l0.length : Int)) - (mn (mx a1 0) (l0.length : Int))))) a3_0 a3_1 a3_2).bind fun t192 => ((line_laid.f l0 (mn (mx a1 0) (l0.length : Int)) t192).bind fun t195 => (some t195))) = some r := h
  clear h
  obtain ⟨ji5, hji5⟩ : ∃ j_ : Int, (mx a1 0) = j_ := ⟨_, rfl⟩
  replace H : ((line_blanks.f k (mx 0 (wrap64 ((mn (mx a2 0) (l0.length : Int)) - (mn (ji5) (l0.length : Int))))) a3_0 a3_1 a3_2).bind fun t192 => ((line_laid.f l0 (mn (ji5) (l0.length : Int)) t192).bind fun t195 => (some t195))) = some r := by first | (rw [hji5] at H; exact H) | (simp only [hji5] at H ⊢; exact H)
  (try (have hji5l : 0 ≤ ji5 := by (rw [← hji5]; unfold mx; (repeat' split) <;> omega)))
  (try (have hji5m : 0 ≤ ji5 := by omega))
  have hji5_ : (if a1 < 0 then 0 else a1) = ji5 := hji5
  obtain ⟨ji6, hji6⟩ : ∃ j_ : Int, (mn (ji5) (l0.length : Int)) = j_ := ⟨_, rfl⟩
  replace H : ((line_blanks.f k (mx 0 (wrap64 ((mn (mx a2 0) (l0.length : Int)) - (ji6)))) a3_0 a3_1 a3_2).bind fun t192 => ((line_laid.f l0 (ji6) t192).bind fun t195 => (some t195))) = some r := by first | (rw [hji6] at H; exact H) | (simp only [hji6] at H ⊢; exact H)
  have hji6_ : (if (l0.length : Int) < (ji5) then (l0.length : Int) else (ji5)) = ji6 := hji6
  obtain ⟨ji7, hji7⟩ : ∃ j_ : Int, (mx a2 0) = j_ := ⟨_, rfl⟩
  replace H : ((line_blanks.f k (mx 0 (wrap64 ((mn (ji7) (l0.length : Int)) - (ji6)))) a3_0 a3_1 a3_2).bind fun t192 => ((line_laid.f l0 (ji6) t192).bind fun t195 => (some t195))) = some r := by first | (rw [hji7] at H; exact H) | (simp only [hji7] at H ⊢; exact H)
  (try (have hji7l : 0 ≤ ji7 := by (rw [← hji7]; unfold mx; (repeat' split) <;> omega)))
  (try (have hji7m : 0 ≤ ji7 := by omega))
  have hji7_ : (if a2 < 0 then 0 else a2) = ji7 := hji7
  obtain ⟨ji8, hji8⟩ : ∃ j_ : Int, (mn (ji7) (l0.length : Int)) = j_ := ⟨_, rfl⟩
  replace H : ((line_blanks.f k (mx 0 (wrap64 ((ji8) - (ji6)))) a3_0 a3_1 a3_2).bind fun t192 => ((line_laid.f l0 (ji6) t192).bind fun t195 => (some t195))) = some r := by first | (rw [hji8] at H; exact H) | (simp only [hji8] at H ⊢; exact H)
  have hji8_ : (if (l0.length : Int) < (ji7) then (l0.length : Int) else (ji7)) = ji8 := hji8
  obtain ⟨ji9, hji9⟩ : ∃ j_ : Int, (mx 0 (wrap64 ((ji8) - (ji6)))) = j_ := ⟨_, rfl⟩
  replace H : ((line_blanks.f k (ji9) a3_0 a3_1 a3_2).bind fun t192 => ((line_laid.f l0 (ji6) t192).bind fun t195 => (some t195))) = some r := by first | (rw [hji9] at H; exact H) | (simp only [hji9] at H ⊢; exact H)
  have hji9_ : (if 0 < (wrap64 ((ji8) - (ji6))) then (wrap64 ((ji8) - (ji6))) else 0) = ji9 := hji9
  replace H := Option.bind_eq_some_iff.mp H
  obtain ⟨t192, A100, H⟩ := H
  try dsimp only at H
  have A10 := Aside0.mk A100
  clear A100
  replace H := Option.bind_eq_some_iff.mp H
  obtain ⟨t195, A110, H⟩ := H
  try dsimp only at H
  have A11 := Aside0.mk A110
  clear A110
  obtain rfl := Option.some.inj H
  go_enter Try.func40, Try.ntmps40
  go_wp2_with (first | ((with_reducible refine gate_dst (N := 7) rfl ?_); refine box_event ?hg (N := 7) ?hd (cs := #[.int .u8 a3_0, .int .u8 a3_1, .int .u8 a3_2]) (t := 24) ?hr ?_; (case hd => rfl); (case hg => rfl); (case hr => first | (go_simp; done) | (go_simp; rfl)); intro gb191 hg w12 hbox hb; have n0_ := aS (below_step (by repeat (first | (with_reducible first | exact HB.out | apply lA | apply lN | apply lD) | exact HB.out)) hb); have n1_ := aS (hbox); have n2_ := aS ((by rw [hg]; exact (below_size (by repeat (first | (with_reducible first | exact HB.out | apply lA | apply lN | apply lD) | exact HB.out))) : w.heap.size ≤ gb191)); have n3_ := aS ((by rw [hg]; exact (below_size (by repeat (first | (with_reducible first | exact HB.out | apply lA | apply lN | apply lD) | exact HB.out))) : w.heap.size ≤ gb191)); clear HB; have HB := n0_; have BK191 := n1_; have GW191 := n2_; have GE191 := n3_; clear n0_ n1_ n2_ n3_; clear hb hbox hg; obtain ⟨hcz13_0, hcz13_1, hcz13_2, hfz13_0, hfz13_1, hfz13_2⟩ := cel3 BK191.out) | ((with_reducible refine gate_callee (f := 99) rfl ?_); refine goesL_ (some 26) rfl rfl Try.func99 (by kernel_rfl) rfl #[.int .i64 ji9, .agg #[.int .u8 a3_0, .int .u8 a3_1, .int .u8 a3_2]] rfl (by (try simp only [List.map_toArray, List.map_cons, List.map_nil]); first | done | (simp only [hji9]; rfl) | rfl | (simp only [List.length_drop, List.length_take]; rfl)) ?_; (with_reducible refine (line_blanks.calls k ji9 a3_0 a3_1 a3_2 t192 _ A10.out).mono ?_); rintro e w14 ⟨v193, rfl, ho0, hb⟩; refine ⟨_, rfl, ?_⟩; have n0_ := aS (Kd.R_lower ho0 (below_size (by repeat (first | (with_reducible first | exact HB.out | apply lA | apply lN | apply lD | refine below_set ?_ GE191.out) | exact HB.out)))); have n1_ := aS (blk_below (g := gb191) (o := .cells #[.int .u8 a3_0, .int .u8 a3_1, .int .u8 a3_2] 24 (0, 0)) (by (with_reducible repeat (first | apply bN | apply bD | apply bA)); exact BK191.out) hb); have n2_ := aS (below_step (by repeat (first | (with_reducible first | exact HB.out | apply lA | apply lN | apply lD | refine below_set ?_ GE191.out) | exact HB.out)) hb); clear BK191; clear HB; have HO194 := n0_; have BK191 := n1_; have HB := n2_; clear n0_ n1_ n2_; (try clear hb); (try clear hb2); (try clear hk); (try clear hi); (try clear ho0); obtain ⟨Ao15, co15, eo15⟩ := Kd.R_slice HO194.out; subst eo15) | ((with_reducible refine gate_callee (f := 96) rfl ?_); refine goesL_ (some 27) rfl rfl Try.func96 (by kernel_rfl) rfl #[.slice A0 l0.length c0, .int .i64 ji6, .slice Ao15 t192.length co15] rfl (by (try simp only [List.map_toArray, List.map_cons, List.map_nil]); first | done | (simp only [hji6]; rfl) | rfl | (simp only [List.length_drop, List.length_take]; rfl)) ?_; (with_reducible refine (line_laid.calls _ _ l0 ji6 _ _ t192 t195 _ ?side1 ?side2 ?side3 ?side4 A11.out).mono ?_); (case side1 => repeat (first | exact (Kd.C_below HR0.out HB.out) | (with_reducible refine Kd.C_alloc ?_ _) | (with_reducible refine Kd.C_drewN ?_ _) | (with_reducible refine Kd.C_drew ?_))); (case side2 => exact HC0.out); (case side3 => repeat (first | exact (Kd.R_reads' HO194.out).2.2 | (with_reducible refine Kd.C_alloc ?_ _) | (with_reducible refine Kd.C_drewN ?_ _) | (with_reducible refine Kd.C_drew ?_))); (case side4 => exact (Kd.R_reads' HO194.out).2.1); rintro e w16 ⟨v196, rfl, ho0, hb⟩; refine ⟨_, rfl, ?_⟩; have n0_ := aS (Kd.R_elder' (by (with_reducible repeat (first | apply rA | apply rN | apply rD)); exact HO194.out) (Kd.R_base ho0) hb); have n1_ := aS (Kd.R_lower (Kd.R_new' ho0 (Kd.R_lt (by (with_reducible repeat (first | apply rA | apply rN | apply rD)); exact HO194.out))) (below_size (by repeat (first | (with_reducible first | exact HB.out | apply lA | apply lN | apply lD | refine below_set ?_ GE191.out) | exact HB.out)))); have n2_ := aS (blk_below (g := gb191) (o := .cells #[.int .u8 a3_0, .int .u8 a3_1, .int .u8 a3_2] 24 (0, 0)) (by (with_reducible repeat (first | apply bN | apply bD | apply bA)); exact BK191.out) hb); have n3_ := aS (below_step (by repeat (first | (with_reducible first | exact HB.out | apply lA | apply lN | apply lD | refine below_set ?_ GE191.out) | exact HB.out)) hb); clear HO194; clear BK191; clear HB; have HO194 := n0_; have HO197 := n1_; have BK191 := n2_; have HB := n3_; clear n0_ n1_ n2_ n3_; (try clear hb); (try clear hb2); (try clear hk); (try clear hi); (try clear ho0)))
  go_ret
  exact ⟨_, by first | rfl | (simp <;> rfl) | (simp only [← hji5, ← hji6, ← hji7, ← hji8, ← hji9]; first | rfl | (simp <;> rfl)) | (simp [*] <;> rfl), by (with_reducible repeat (first | apply rA | apply rN | apply rD)); exact Kd.R_mono HO197.out (fun _ hk => trivial), by repeat (first | (with_reducible first | exact HB.out | apply lA | apply lN | apply lD | refine below_set ?_ GE191.out) | exact HB.out)⟩

def cell_Of.f (a0 : Int) (a1_0 : Int) (a1_1 : Int) (a1_2 : Int) : Option (Int × Int × Int × Int × Int × Int × Int × Bool) := (width_Of.f a0).bind fun t200 => (if t200 < 1 then (some (0, 0, 0, 0, 0, 0, 0, false)) else (some (a0, 0, 0, (t200) % 256, a1_0, a1_1, a1_2, true)))
set_option maxHeartbeats 8000000 in
set_option maxRecDepth 100000 in
theorem cell_Of.calls (a0 : Int) (a1_0 : Int) (a1_1 : Int) (a1_2 : Int) (r1 : Int) (r2 : Int) (r3 : Int) (r4 : Int) (r5 : Int) (r6 : Int) (r7 : Int) (r8 : Bool) (w : World) (h : cell_Of.f a0 a1_0 a1_1 a1_2 = some (r1, r2, r3, r4, r5, r6, r7, r8)) :
    Calls Try.prog 14 #[.int .i32 a0, .agg #[.int .u8 a1_0, .int .u8 a1_1, .int .u8 a1_2]] w fun e w' => e = .returned (.tuple #[.agg #[.int .i32 r1, .int .i32 r2, .int .i32 r3, .int .u8 r4, .int .u8 r5, .int .u8 r6, .int .u8 r7], .bool r8]) ∧ Below w.heap.size w w' := by
  have hu24 := Try.underlying24
  have hu26 := Try.underlying26
  have HB := aS (Below.refl w.heap.size w)
  have H : ((width_Of.f a0).bind fun t200 => (if t200 < 1 then (some (0, 0, 0, 0, 0, 0, 0, false)) else (some (a0, 0, 0, (t200) % 256, a1_0, a1_1, a1_2, true)))) = some (r1, r2, r3, r4, r5, r6, r7, r8) := h
  clear h
  replace H := Option.bind_eq_some_iff.mp H
  obtain ⟨t200, A30, H⟩ := H
  try dsimp only at H
  have A3 := Aside0.mk A30
  clear A30
  by_cases c4 : t200 < 1
  · rw [if_pos c4] at H
    have c4b0 : decide (t200 < 1) = true := decide_eq_true c4
    clear c4
    simp only [Option.some.injEq, Prod.mk.injEq] at H
    obtain ⟨rfl, rfl, rfl, rfl, rfl, rfl, rfl, rfl⟩ := H
    go_enter Try.func14, Try.ntmps14
    go_wp2_with (first | ((with_reducible refine gate_dst (N := 3) rfl ?_); refine box_event ?hg (N := 3) ?hd (cs := #[.int .u8 a1_0, .int .u8 a1_1, .int .u8 a1_2]) (t := 24) ?hr ?_; (case hd => rfl); (case hg => rfl); (case hr => first | (go_simp; done) | (go_simp; rfl)); intro gb198 hg w5 hbox hb; have n0_ := aS (below_step (by repeat (first | (with_reducible first | exact HB.out | apply lA | apply lN | apply lD) | exact HB.out)) hb); have n1_ := aS (hbox); have n2_ := aS ((by rw [hg]; exact (below_size (by repeat (first | (with_reducible first | exact HB.out | apply lA | apply lN | apply lD) | exact HB.out))) : w.heap.size ≤ gb198)); have n3_ := aS ((by rw [hg]; exact (below_size (by repeat (first | (with_reducible first | exact HB.out | apply lA | apply lN | apply lD) | exact HB.out))) : w.heap.size ≤ gb198)); clear HB; have HB := n0_; have BK198 := n1_; have GW198 := n2_; have GE198 := n3_; clear n0_ n1_ n2_ n3_; clear hb hbox hg) | ((with_reducible refine gate_dst (N := 4) rfl ?_); refine box_event ?hg (N := 4) ?hd (cs := #[.int .i32 0, .int .i32 0, .int .i32 0, .int .u8 0, .int .u8 0, .int .u8 0, .int .u8 0]) (t := 26) ?hr ?_; (case hd => rfl); (case hg => rfl); (case hr => first | (go_simp; done) | (go_simp; rfl)); intro gb199 hg w6 hbox hb; have n0_ := aS (blk_below (g := gb198) (o := .cells #[.int .u8 a1_0, .int .u8 a1_1, .int .u8 a1_2] 24 (0, 0)) (by (with_reducible repeat (first | apply bN | apply bD | apply bA)); exact BK198.out) hb); have n1_ := aS (below_step (by repeat (first | (with_reducible first | exact HB.out | apply lA | apply lN | apply lD | refine below_set ?_ GE198.out) | exact HB.out)) hb); have n2_ := aS (hbox); have n3_ := aS ((by rw [hg]; exact (below_size (by repeat (first | (with_reducible first | exact HB.out | apply lA | apply lN | apply lD | refine below_set ?_ GE198.out) | exact HB.out))) : w.heap.size ≤ gb199)); have n4_ := aS ((by rw [hg]; exact (below_size (by repeat (first | (with_reducible first | exact HB.out | apply lA | apply lN | apply lD | refine below_set ?_ GE198.out) | exact HB.out))) : w.heap.size ≤ gb199)); have n5_ := aS ((by rw [hg]; exact Nat.ne_of_lt (blk_lt (g := gb198) (o := .cells #[.int .u8 a1_0, .int .u8 a1_1, .int .u8 a1_2] 24 (0, 0)) (by (with_reducible repeat (first | apply bN | apply bD | apply bA)); exact BK198.out)) : gb198 ≠ gb199)); have n6_ := aS ((by rw [hg]; exact Nat.ne_of_gt (blk_lt (g := gb198) (o := .cells #[.int .u8 a1_0, .int .u8 a1_1, .int .u8 a1_2] 24 (0, 0)) (by (with_reducible repeat (first | apply bN | apply bD | apply bA)); exact BK198.out)) : gb199 ≠ gb198)); clear BK198; clear HB; have BK198 := n0_; have HB := n1_; have BK199 := n2_; have GW199 := n3_; have GE199 := n4_; have NB198_199 := n5_; have NB199_198 := n6_; clear n0_ n1_ n2_ n3_ n4_ n5_ n6_; clear hb hbox hg) | ((with_reducible refine gate_callee (f := 84) rfl ?_); refine goesL_ (some 8) rfl rfl Try.func84 (by kernel_rfl) rfl #[.int .i32 a0] rfl (by (try simp only [List.map_toArray, List.map_cons, List.map_nil]); first | done | rfl | (simp only [List.length_drop, List.length_take]; rfl)) ?_; (with_reducible refine (width_Of.calls a0 t200 _ A3.out).mono ?_); rintro e w7 ⟨rfl, hb⟩; refine ⟨_, rfl, ?_⟩; have n0_ := aS (blk_below (g := gb198) (o := .cells #[.int .u8 a1_0, .int .u8 a1_1, .int .u8 a1_2] 24 (0, 0)) (by (with_reducible repeat (first | apply bN | apply bD | apply bA)); exact BK198.out) hb); have n1_ := aS (blk_below (g := gb199) (o := .cells #[.int .i32 0, .int .i32 0, .int .i32 0, .int .u8 0, .int .u8 0, .int .u8 0, .int .u8 0] 26 (0, 0)) (by (with_reducible repeat (first | apply bN | apply bD | apply bA)); exact BK199.out) hb); have n2_ := aS (below_step (by repeat (first | (with_reducible first | exact HB.out | apply lA | apply lN | apply lD | refine below_set ?_ GE198.out | refine below_set ?_ GE199.out) | exact HB.out)) hb); clear BK198; clear BK199; clear HB; have BK198 := n0_; have BK199 := n1_; have HB := n2_; clear n0_ n1_ n2_; (try clear hb); (try clear hb2); (try clear hk); (try clear hi); have hnb8 := NB199_198.out; have hnc8 := NB198_199.out; obtain ⟨hcz9_0, hcz9_1, hcz9_2, hcz9_3, hcz9_4, hcz9_5, hcz9_6, hfz9_0, hfz9_1, hfz9_2, hfz9_3, hfz9_4, hfz9_5, hfz9_6⟩ := cel7 BK199.out))
    refine bodyPost_ret (results_ct rfl _ _ gb199 26 #[.int .i32 0, .int .i32 0, .int .i32 0, .int .u8 0, .int .u8 0, .int .u8 0, .int .u8 0] (0, 0) _ rfl (by (with_reducible repeat (first | apply bN | apply bD | apply bA)); refine blk_put (cs := #[.int .i32 0, .int .i32 0, .int .i32 0, .int .u8 0, .int .u8 0, .int .u8 0, .int .u8 0]) ?_ 6 _ rfl; refine blk_put (cs := #[.int .i32 0, .int .i32 0, .int .i32 0, .int .u8 0, .int .u8 0, .int .u8 0, .int .u8 0]) ?_ 5 _ rfl; refine blk_put (cs := #[.int .i32 0, .int .i32 0, .int .i32 0, .int .u8 0, .int .u8 0, .int .u8 0, .int .u8 0]) ?_ 4 _ rfl; refine blk_put (cs := #[.int .i32 0, .int .i32 0, .int .i32 0, .int .u8 0, .int .u8 0, .int .u8 0, .int .u8 0]) ?_ 3 _ rfl; refine blk_put (cs := #[.int .i32 0, .int .i32 0, .int .i32 0, .int .u8 0, .int .u8 0, .int .u8 0, .int .u8 0]) ?_ 2 _ rfl; refine blk_put (cs := #[.int .i32 0, .int .i32 0, .int .i32 0, .int .u8 0, .int .u8 0, .int .u8 0, .int .u8 0]) ?_ 1 _ rfl; refine blk_put (cs := #[.int .i32 0, .int .i32 0, .int .i32 0, .int .u8 0, .int .u8 0, .int .u8 0, .int .u8 0]) ?_ 0 _ rfl; (with_reducible repeat (first | apply bN | apply bD | apply bA)); exact BK199.out) Try.underlying26 rfl (by kernel_rfl)) rfl ?_
    exact ⟨by first | rfl | (simp <;> rfl) | (simp [*] <;> rfl), by repeat (first | (with_reducible first | exact HB.out | apply lA | apply lN | apply lD | refine below_set ?_ GE198.out | refine below_set ?_ GE199.out) | exact HB.out)⟩
  · rw [if_neg c4] at H
    have c4b0 : decide (t200 < 1) = false := decide_eq_false c4
    clear c4
    simp only [Option.some.injEq, Prod.mk.injEq] at H
    obtain ⟨rfl, rfl, rfl, rfl, rfl, rfl, rfl, rfl⟩ := H
    go_enter Try.func14, Try.ntmps14
    go_wp2_with (first | ((with_reducible refine gate_dst (N := 3) rfl ?_); refine box_event ?hg (N := 3) ?hd (cs := #[.int .u8 a1_0, .int .u8 a1_1, .int .u8 a1_2]) (t := 24) ?hr ?_; (case hd => rfl); (case hg => rfl); (case hr => first | (go_simp; done) | (go_simp; rfl)); intro gb198 hg w10 hbox hb; have n0_ := aS (below_step (by repeat (first | (with_reducible first | exact HB.out | apply lA | apply lN | apply lD) | exact HB.out)) hb); have n1_ := aS (hbox); have n2_ := aS ((by rw [hg]; exact (below_size (by repeat (first | (with_reducible first | exact HB.out | apply lA | apply lN | apply lD) | exact HB.out))) : w.heap.size ≤ gb198)); have n3_ := aS ((by rw [hg]; exact (below_size (by repeat (first | (with_reducible first | exact HB.out | apply lA | apply lN | apply lD) | exact HB.out))) : w.heap.size ≤ gb198)); clear HB; have HB := n0_; have BK198 := n1_; have GW198 := n2_; have GE198 := n3_; clear n0_ n1_ n2_ n3_; clear hb hbox hg) | ((with_reducible refine gate_dst (N := 4) rfl ?_); refine box_event ?hg (N := 4) ?hd (cs := #[.int .i32 0, .int .i32 0, .int .i32 0, .int .u8 0, .int .u8 0, .int .u8 0, .int .u8 0]) (t := 26) ?hr ?_; (case hd => rfl); (case hg => rfl); (case hr => first | (go_simp; done) | (go_simp; rfl)); intro gb199 hg w11 hbox hb; have n0_ := aS (blk_below (g := gb198) (o := .cells #[.int .u8 a1_0, .int .u8 a1_1, .int .u8 a1_2] 24 (0, 0)) (by (with_reducible repeat (first | apply bN | apply bD | apply bA)); exact BK198.out) hb); have n1_ := aS (below_step (by repeat (first | (with_reducible first | exact HB.out | apply lA | apply lN | apply lD | refine below_set ?_ GE198.out) | exact HB.out)) hb); have n2_ := aS (hbox); have n3_ := aS ((by rw [hg]; exact (below_size (by repeat (first | (with_reducible first | exact HB.out | apply lA | apply lN | apply lD | refine below_set ?_ GE198.out) | exact HB.out))) : w.heap.size ≤ gb199)); have n4_ := aS ((by rw [hg]; exact (below_size (by repeat (first | (with_reducible first | exact HB.out | apply lA | apply lN | apply lD | refine below_set ?_ GE198.out) | exact HB.out))) : w.heap.size ≤ gb199)); have n5_ := aS ((by rw [hg]; exact Nat.ne_of_lt (blk_lt (g := gb198) (o := .cells #[.int .u8 a1_0, .int .u8 a1_1, .int .u8 a1_2] 24 (0, 0)) (by (with_reducible repeat (first | apply bN | apply bD | apply bA)); exact BK198.out)) : gb198 ≠ gb199)); have n6_ := aS ((by rw [hg]; exact Nat.ne_of_gt (blk_lt (g := gb198) (o := .cells #[.int .u8 a1_0, .int .u8 a1_1, .int .u8 a1_2] 24 (0, 0)) (by (with_reducible repeat (first | apply bN | apply bD | apply bA)); exact BK198.out)) : gb199 ≠ gb198)); clear BK198; clear HB; have BK198 := n0_; have HB := n1_; have BK199 := n2_; have GW199 := n3_; have GE199 := n4_; have NB198_199 := n5_; have NB199_198 := n6_; clear n0_ n1_ n2_ n3_ n4_ n5_ n6_; clear hb hbox hg) | ((with_reducible refine gate_callee (f := 84) rfl ?_); refine goesL_ (some 8) rfl rfl Try.func84 (by kernel_rfl) rfl #[.int .i32 a0] rfl (by (try simp only [List.map_toArray, List.map_cons, List.map_nil]); first | done | rfl | (simp only [List.length_drop, List.length_take]; rfl)) ?_; (with_reducible refine (width_Of.calls a0 t200 _ A3.out).mono ?_); rintro e w12 ⟨rfl, hb⟩; refine ⟨_, rfl, ?_⟩; have n0_ := aS (blk_below (g := gb198) (o := .cells #[.int .u8 a1_0, .int .u8 a1_1, .int .u8 a1_2] 24 (0, 0)) (by (with_reducible repeat (first | apply bN | apply bD | apply bA)); exact BK198.out) hb); have n1_ := aS (blk_below (g := gb199) (o := .cells #[.int .i32 0, .int .i32 0, .int .i32 0, .int .u8 0, .int .u8 0, .int .u8 0, .int .u8 0] 26 (0, 0)) (by (with_reducible repeat (first | apply bN | apply bD | apply bA)); exact BK199.out) hb); have n2_ := aS (below_step (by repeat (first | (with_reducible first | exact HB.out | apply lA | apply lN | apply lD | refine below_set ?_ GE198.out | refine below_set ?_ GE199.out) | exact HB.out)) hb); clear BK198; clear BK199; clear HB; have BK198 := n0_; have BK199 := n1_; have HB := n2_; clear n0_ n1_ n2_; (try clear hb); (try clear hb2); (try clear hk); (try clear hi); have hnb13 := NB198_199.out; have hnc13 := NB199_198.out; obtain ⟨hcz14_0, hcz14_1, hcz14_2, hfz14_0, hfz14_1, hfz14_2⟩ := cel3 BK198.out; obtain ⟨hcz15_0, hcz15_1, hcz15_2, hcz15_3, hcz15_4, hcz15_5, hcz15_6, hfz15_0, hfz15_1, hfz15_2, hfz15_3, hfz15_4, hfz15_5, hfz15_6⟩ := cel7 BK199.out))
    refine bodyPost_ret (results_ct rfl _ _ gb199 26 #[.int .i32 a0, .int .i32 0, .int .i32 0, .int .u8 ((t200) % 256), .int .u8 a1_0, .int .u8 a1_1, .int .u8 a1_2] (0, 0) _ rfl (by (with_reducible repeat (first | apply bN | apply bD | apply bA)); refine blk_put (cs := #[.int .i32 a0, .int .i32 0, .int .i32 0, .int .u8 ((t200) % 256), .int .u8 a1_0, .int .u8 a1_1, .int .u8 0]) ?_ 6 _ rfl; refine blk_put (cs := #[.int .i32 a0, .int .i32 0, .int .i32 0, .int .u8 ((t200) % 256), .int .u8 a1_0, .int .u8 0, .int .u8 0]) ?_ 5 _ rfl; refine blk_put (cs := #[.int .i32 a0, .int .i32 0, .int .i32 0, .int .u8 ((t200) % 256), .int .u8 0, .int .u8 0, .int .u8 0]) ?_ 4 _ rfl; refine blk_put (cs := #[.int .i32 a0, .int .i32 0, .int .i32 0, .int .u8 0, .int .u8 0, .int .u8 0, .int .u8 0]) ?_ 3 _ rfl; refine blk_put (cs := #[.int .i32 a0, .int .i32 0, .int .i32 0, .int .u8 0, .int .u8 0, .int .u8 0, .int .u8 0]) ?_ 2 _ rfl; refine blk_put (cs := #[.int .i32 a0, .int .i32 0, .int .i32 0, .int .u8 0, .int .u8 0, .int .u8 0, .int .u8 0]) ?_ 1 _ rfl; refine blk_put (cs := #[.int .i32 0, .int .i32 0, .int .i32 0, .int .u8 0, .int .u8 0, .int .u8 0, .int .u8 0]) ?_ 0 _ rfl; (with_reducible repeat (first | apply bN | apply bD | apply bA)); exact BK199.out) Try.underlying26 rfl (by kernel_rfl)) rfl ?_
    exact ⟨by first | rfl | (simp <;> rfl) | (simp [*] <;> rfl), by repeat (first | (with_reducible first | exact HB.out | apply lA | apply lN | apply lD | refine below_set ?_ GE198.out | refine below_set ?_ GE199.out) | exact HB.out)⟩

def cell_Cell_97.l0 : Nat → List (S26) → List (S26) → Int → Int → Option (Bool)
  | 0, _, _, _, _ => none
  | k + 1, x0, x1, x12, x13 => if x13 < x12 then (if 0 ≤ x13 then (if x13 < (x0.length : Int) then (if x13 < (x1.length : Int) then (if (!(((rd_T26 x0 x13).f0) == ((rd_T26 x1 x13).f0)) || ((!(((rd_T26 x0 x13).f1.f0) == ((rd_T26 x1 x13).f1.f0)) || (!(((rd_T26 x0 x13).f1.f1) == ((rd_T26 x1 x13).f1.f1)))) || (!(((rd_T26 x0 x13).f2) == ((rd_T26 x1 x13).f2)) || ((!(((rd_T26 x0 x13).f3.f0) == ((rd_T26 x1 x13).f3.f0)) || (!(((rd_T26 x0 x13).f3.f1) == ((rd_T26 x1 x13).f3.f1)) || (!(((rd_T26 x0 x13).f3.f2) == ((rd_T26 x1 x13).f3.f2))))))))) = true then (some false) else (cell_Cell_97.l0 k x0 x1 x12 (wrap64 (x13 + 1)))) else (none)) else (none)) else (none)) else (some true)
def cell_Cell_97.f (k : Nat) (l0 : List (S26)) (l1 : List (S26)) : Option (Bool) := if (l0.length : Int) = (l1.length : Int) then (cell_Cell_97.l0 k l0 l1 (l0.length : Int) 0) else (some false)
set_option maxHeartbeats 8000000 in
set_option maxRecDepth 100000 in
theorem cell_Cell_97.calls (k : Nat) (A0 : Option Addr) (c0 : Nat) (l0 : List (S26)) (A1 : Option Addr) (c1 : Nat) (l1 : List (S26)) (r : Bool) (w : World) (hr0 : Kd.C k26 w A0 l0.length l0) (hc0 : l0.length ≤ c0) (hr1 : Kd.C k26 w A1 l1.length l1) (hc1 : l1.length ≤ c1) (h : cell_Cell_97.f k l0 l1 = some r) :
    Calls Try.prog 97 #[.slice A0 l0.length c0, .slice A1 l1.length c1] w fun e w' => e = .returned (.bool r) ∧ Drawn0 w w' := by
  have hu26 := Try.underlying26
  have HR0 := Aside0.mk hr0
  have HC0 := Aside0.mk hc0
  clear hr0 hc0
  have HR1 := Aside0.mk hr1
  have HC1 := Aside0.mk hc1
  clear hr1 hc1
  have H : (if (l0.length : Int) = (l1.length : Int) then (cell_Cell_97.l0 k l0 l1 (l0.length : Int) 0) else (some false)) = some r := h
  clear h
  by_cases c3 : (l0.length : Int) = (l1.length : Int)
  · rw [if_pos c3] at H
    have c3b0 : ((l0.length : Int) == (l1.length : Int)) = true := beq_iff_eq.mpr c3
    have c3b1 : ((l0.length : Int) != (l1.length : Int)) = false := bne_eq_false_iff_eq.mpr c3
    have c3b2 : (l0.length == l1.length) = true := by first | simpa using c3 | (simp at c3 ⊢; omega)
    clear c3
    have H' := Aside0.mk H
    clear H
    go_enter Try.func97, Try.ntmps97
    go_wp2
    repeat (go_quiet (fail); try go_wp2)
    go_loopg [13] k (fun kq v13 w' => ∃ (x13_1 : Int), v13 = .int .i64 x13_1 ∧ Aside0 (cell_Cell_97.l0 kq l0 l1 (l0.length : Int) x13_1 = some r) ∧ Aside0 (kq ≤ k) ∧ Drawn0 w w')
    case atStart => exact ⟨(0), (by first | rfl | (simp; done) | (simp [*]; done)), H', ⟨Nat.le_refl _⟩, by repeat (first | exact Drawn0.refl _ | apply Drawn0.step)⟩
    case round =>
      clear H'
      try clear c1
      try clear p2
      try clear c3
      try clear c3b0
      try clear c3b1
      try clear c3b2
      obtain ⟨x13_1, rfl, HA, HK1, ⟨m1, rfl⟩⟩ := hrel
      cases gk with
      | zero => exact absurd HA.out (by simp [cell_Cell_97.l0])
      | succ k1 =>
        have H := HA.out
        clear HA
        simp only [cell_Cell_97.l0] at H
        by_cases c4 : x13_1 < (l0.length : Int)
        · rw [if_pos c4] at H
          have c4b0 : decide (x13_1 < (l0.length : Int)) = true := decide_eq_true c4
          clear c4
          by_cases c5 : 0 ≤ x13_1
          · rw [if_pos c5] at H
            have c5b0 : decide (0 ≤ x13_1) = true := decide_eq_true c5
            clear c5
            by_cases c6 : x13_1 < (l0.length : Int)
            · rw [if_pos c6] at H
              have c6b0 : decide (x13_1 < (l0.length : Int)) = true := decide_eq_true c6
              clear c6
              by_cases c7 : x13_1 < (l1.length : Int)
              · rw [if_pos c7] at H
                have c7b0 : decide (x13_1 < (l1.length : Int)) = true := decide_eq_true c7
                clear c7
                by_cases c8 : (!(((rd_T26 l0 x13_1).f0) == ((rd_T26 l1 x13_1).f0)) || ((!(((rd_T26 l0 x13_1).f1.f0) == ((rd_T26 l1 x13_1).f1.f0)) || (!(((rd_T26 l0 x13_1).f1.f1) == ((rd_T26 l1 x13_1).f1.f1)))) || (!(((rd_T26 l0 x13_1).f2) == ((rd_T26 l1 x13_1).f2)) || ((!(((rd_T26 l0 x13_1).f3.f0) == ((rd_T26 l1 x13_1).f3.f0)) || (!(((rd_T26 l0 x13_1).f3.f1) == ((rd_T26 l1 x13_1).f3.f1)) || (!(((rd_T26 l0 x13_1).f3.f2) == ((rd_T26 l1 x13_1).f3.f2))))))))) = true
                · rw [if_pos c8] at H
                  have c8b0 : (!(((rd_T26 l0 x13_1).f0) == ((rd_T26 l1 x13_1).f0)) || ((!(((rd_T26 l0 x13_1).f1.f0) == ((rd_T26 l1 x13_1).f1.f0)) || (!(((rd_T26 l0 x13_1).f1.f1) == ((rd_T26 l1 x13_1).f1.f1)))) || (!(((rd_T26 l0 x13_1).f2) == ((rd_T26 l1 x13_1).f2)) || ((!(((rd_T26 l0 x13_1).f3.f0) == ((rd_T26 l1 x13_1).f3.f0)) || (!(((rd_T26 l0 x13_1).f3.f1) == ((rd_T26 l1 x13_1).f3.f1)) || (!(((rd_T26 l0 x13_1).f3.f2) == ((rd_T26 l1 x13_1).f3.f2))))))))) = true := c8
                  clear c8
                  obtain rfl := Option.some.inj H
                  have p201 : 0 ≤ (x13_1 : Int) := of_decide_eq_true (by first | (with_reducible assumption) | assumption)
                  have q201 : x13_1 < (l0.length : Int) := of_decide_eq_true (by first | (with_reducible assumption) | assumption)
                  obtain ⟨ad201, e201, hx201_0, hx201_1, hx201_2, hx201_3, hx201_4, hx201_5, hx201_6⟩ := at_T26 HR0.out x13_1 p201 q201
                  cases e201
                  replace p201 := eq_true p201
                  replace q201 := eq_true q201
                  have p202 : 0 ≤ (x13_1 : Int) := of_decide_eq_true (by first | (with_reducible assumption) | assumption)
                  have q202 : x13_1 < (l1.length : Int) := of_decide_eq_true (by first | (with_reducible assumption) | assumption)
                  obtain ⟨ad202, e202, hx202_0, hx202_1, hx202_2, hx202_3, hx202_4, hx202_5, hx202_6⟩ := at_T26 HR1.out x13_1 p202 q202
                  cases e202
                  replace p202 := eq_true p202
                  replace q202 := eq_true q202
                  go_wp2
                  repeat (go_quiet (fail); try go_wp2)
                  go_ret
                  exact ⟨by first | rfl | (simp; done) | (simp [*]; done), by repeat (first | exact Drawn0.refl _ | apply Drawn0.step)⟩
                · rw [if_neg c8] at H
                  have c8b0 : (!(((rd_T26 l0 x13_1).f0) == ((rd_T26 l1 x13_1).f0)) || ((!(((rd_T26 l0 x13_1).f1.f0) == ((rd_T26 l1 x13_1).f1.f0)) || (!(((rd_T26 l0 x13_1).f1.f1) == ((rd_T26 l1 x13_1).f1.f1)))) || (!(((rd_T26 l0 x13_1).f2) == ((rd_T26 l1 x13_1).f2)) || ((!(((rd_T26 l0 x13_1).f3.f0) == ((rd_T26 l1 x13_1).f3.f0)) || (!(((rd_T26 l0 x13_1).f3.f1) == ((rd_T26 l1 x13_1).f3.f1)) || (!(((rd_T26 l0 x13_1).f3.f2) == ((rd_T26 l1 x13_1).f3.f2))))))))) = false := by simpa using c8
                  clear c8
                  have H' := Aside0.mk H
                  clear H
                  have p201 : 0 ≤ (x13_1 : Int) := of_decide_eq_true (by first | (with_reducible assumption) | assumption)
                  have q201 : x13_1 < (l0.length : Int) := of_decide_eq_true (by first | (with_reducible assumption) | assumption)
                  obtain ⟨ad201, e201, hx201_0, hx201_1, hx201_2, hx201_3, hx201_4, hx201_5, hx201_6⟩ := at_T26 HR0.out x13_1 p201 q201
                  cases e201
                  replace p201 := eq_true p201
                  replace q201 := eq_true q201
                  have p202 : 0 ≤ (x13_1 : Int) := of_decide_eq_true (by first | (with_reducible assumption) | assumption)
                  have q202 : x13_1 < (l1.length : Int) := of_decide_eq_true (by first | (with_reducible assumption) | assumption)
                  obtain ⟨ad202, e202, hx202_0, hx202_1, hx202_2, hx202_3, hx202_4, hx202_5, hx202_6⟩ := at_T26 HR1.out x13_1 p202 q202
                  cases e202
                  replace p202 := eq_true p202
                  replace q202 := eq_true q202
                  go_wp2
                  repeat (go_quiet (fail); try go_wp2)
                  go_roundg k1
                  case measure => have := HK1.out; omega
                  case rel => exact ⟨(wrap64 (x13_1 + 1)), (by first | rfl | (simp; done) | (simp [*]; done)), H', ⟨by have := HK1.out; omega⟩, by repeat (first | exact Drawn0.refl _ | apply Drawn0.step)⟩
              · rw [if_neg c7] at H
                exact absurd H (by simp)
            · rw [if_neg c6] at H
              exact absurd H (by simp)
          · rw [if_neg c5] at H
            exact absurd H (by simp)
        · rw [if_neg c4] at H
          have c4b0 : decide (x13_1 < (l0.length : Int)) = false := decide_eq_false c4
          clear c4
          obtain rfl := Option.some.inj H
          go_wp2
          repeat (go_quiet (fail); try go_wp2)
          go_ret
          exact ⟨by first | rfl | (simp; done) | (simp [*]; done), by repeat (first | exact Drawn0.refl _ | apply Drawn0.step)⟩
  · rw [if_neg c3] at H
    have c3b0 : ((l0.length : Int) == (l1.length : Int)) = false := beq_eq_false_iff_ne.mpr c3
    have c3b1 : ((l0.length : Int) != (l1.length : Int)) = true := bne_iff_ne.mpr c3
    have c3b2 : (l0.length == l1.length) = false := by first | simpa using c3 | (simp at c3 ⊢; omega)
    obtain rfl := Option.some.inj H
    go_enter Try.func97, Try.ntmps97
    go_wp2
    repeat (go_quiet (fail); try go_wp2)
    go_ret
    exact ⟨by first | rfl | (simp; done) | (simp [*]; done), by repeat (first | exact Drawn0.refl _ | apply Drawn0.step)⟩

def line_Same.f (k : Nat) (l0 : List (S26)) (l1 : List (S26)) : Option (Bool) := (cell_Cell_97.f k l0 l1).bind fun t203 => (some t203)
set_option maxHeartbeats 8000000 in
set_option maxRecDepth 100000 in
theorem line_Same.calls (k : Nat) (A0 : Option Addr) (c0 : Nat) (l0 : List (S26)) (A1 : Option Addr) (c1 : Nat) (l1 : List (S26)) (r : Bool) (w : World) (hr0 : Kd.C k26 w A0 l0.length l0) (hc0 : l0.length ≤ c0) (hr1 : Kd.C k26 w A1 l1.length l1) (hc1 : l1.length ≤ c1) (h : line_Same.f k l0 l1 = some r) :
    Calls Try.prog 38 #[.slice A0 l0.length c0, .slice A1 l1.length c1] w fun e w' => e = .returned (.bool r) ∧ Drawn0 w w' := by
  have HR0 := Aside0.mk hr0
  have HC0 := Aside0.mk hc0
  clear hr0 hc0
  have HR1 := Aside0.mk hr1
  have HC1 := Aside0.mk hc1
  clear hr1 hc1
  have H : ((cell_Cell_97.f k l0 l1).bind fun t203 => (some t203)) = some r := h
  clear h
  replace H := Option.bind_eq_some_iff.mp H
  obtain ⟨t203, A30, H⟩ := H
  try dsimp only at H
  have A3 := Aside0.mk A30
  clear A30
  obtain rfl := Option.some.inj H
  go_enter Try.func38, Try.ntmps38
  go_wp2_with (first | ((with_reducible refine gate_callee (f := 97) rfl ?_); refine goesL_ (some 7) rfl rfl Try.func97 (by kernel_rfl) rfl #[.slice A0 l0.length c0, .slice A1 l1.length c1] rfl (by (try simp only [List.map_toArray, List.map_cons, List.map_nil]); first | done | rfl | (simp only [List.length_drop, List.length_take]; rfl)) ?_; (with_reducible refine (cell_Cell_97.calls k _ _ l0 _ _ l1 t203 _ ?side1 ?side2 ?side3 ?side4 A3.out).mono ?_); (case side1 => repeat (first | exact HR0.out | (with_reducible refine Kd.C_alloc ?_ _) | (with_reducible refine Kd.C_drewN ?_ _) | (with_reducible refine Kd.C_drew ?_))); (case side2 => exact HC0.out); (case side3 => repeat (first | exact HR1.out | (with_reducible refine Kd.C_alloc ?_ _) | (with_reducible refine Kd.C_drewN ?_ _) | (with_reducible refine Kd.C_drew ?_))); (case side4 => exact HC1.out); rintro e w' ⟨rfl, ⟨nd, rfl⟩⟩; refine ⟨_, rfl, ?_⟩))
  go_ret
  exact ⟨by first | rfl | (simp; done) | (simp [*]; done), by repeat (first | exact Drawn0.refl _ | apply Drawn0.step)⟩

def line_New.f (k : Nat) (a0 : Int) : Option ((List (S26))) := (line_length.f a0).bind fun t204 => ((line_blanks.f k t204 0 0 0).bind fun t205 => (some t205))
set_option maxHeartbeats 8000000 in
set_option maxRecDepth 100000 in
theorem line_New.calls (k : Nat) (a0 : Int) (r : List (S26)) (w : World) (h : line_New.f k a0 = some r) :
    Calls Try.prog 51 #[.int .i64 a0] w fun e w' => ∃ v0_ : Value, e = .returned (v0_) ∧ Kd.R k26 26 w' w.heap.size (fun _ => True) v0_ r ∧ Below w.heap.size w w' := by
  have hu24 := Try.underlying24
  have HB := aS (Below.refl w.heap.size w)
  have H : ((line_length.f a0).bind fun t204 => ((line_blanks.f k t204 0 0 0).bind fun t205 => (some t205))) = some r := h
  clear h
  replace H := Option.bind_eq_some_iff.mp H
  obtain ⟨t204, A20, H⟩ := H
  try dsimp only at H
  have A2 := Aside0.mk A20
  clear A20
  replace H := Option.bind_eq_some_iff.mp H
  obtain ⟨t205, A30, H⟩ := H
  try dsimp only at H
  have A3 := Aside0.mk A30
  clear A30
  obtain rfl := Option.some.inj H
  go_enter Try.func51, Try.ntmps51
  go_wp2_with (first | ((with_reducible refine gate_callee (f := 98) rfl ?_); refine goesL_ (some 4) rfl rfl Try.func98 (by kernel_rfl) rfl #[.int .i64 a0] rfl (by (try simp only [List.map_toArray, List.map_cons, List.map_nil]); first | done | rfl | (simp only [List.length_drop, List.length_take]; rfl)) ?_; (with_reducible refine (line_length.calls a0 t204 _ A2.out).mono ?_); rintro e w4 ⟨rfl, hb⟩; refine ⟨_, rfl, ?_⟩; have n0_ := aS (below_step (by repeat (first | (with_reducible first | exact HB.out | apply lA | apply lN | apply lD) | exact HB.out)) hb); clear HB; have HB := n0_; clear n0_; (try clear hb); (try clear hb2); (try clear hk); (try clear hi)) | ((with_reducible refine gate_callee (f := 99) rfl ?_); refine goesL_ (some 6) rfl rfl Try.func99 (by kernel_rfl) rfl #[.int .i64 t204, .agg #[.int .u8 0, .int .u8 0, .int .u8 0]] rfl (by (try simp only [List.map_toArray, List.map_cons, List.map_nil]); first | done | rfl | (simp only [List.length_drop, List.length_take]; rfl)) ?_; (with_reducible refine (line_blanks.calls k t204 0 0 0 t205 _ A3.out).mono ?_); rintro e w5 ⟨v206, rfl, ho0, hb⟩; refine ⟨_, rfl, ?_⟩; have n0_ := aS (Kd.R_lower ho0 (below_size (by repeat (first | (with_reducible first | exact HB.out | apply lA | apply lN | apply lD) | exact HB.out)))); have n1_ := aS (below_step (by repeat (first | (with_reducible first | exact HB.out | apply lA | apply lN | apply lD) | exact HB.out)) hb); clear HB; have HO207 := n0_; have HB := n1_; clear n0_ n1_; (try clear hb); (try clear hb2); (try clear hk); (try clear hi); (try clear ho0)))
  go_ret
  exact ⟨_, by first | rfl | (simp <;> rfl) | (simp [*] <;> rfl), by (with_reducible repeat (first | apply rA | apply rN | apply rD)); exact HO207.out, by repeat (first | (with_reducible first | exact HB.out | apply lA | apply lN | apply lD) | exact HB.out)⟩

def prolepsislaw06_knownB.f (k : Nat)  : Option (Bool) := (cell_Of.f 12354 0 0 0).bind fun bt208 => ((cell_Of.f 97 0 0 0).bind fun bt217 => ((cell_Blank.f 0 0 0).bind fun bt226 => ((line_New.f k 4).bind fun t234 => ((line_Put.f k t234 1 bt208.1 bt208.2.1 bt208.2.2.1 bt208.2.2.2.1 bt208.2.2.2.2.1 bt208.2.2.2.2.2.1 bt208.2.2.2.2.2.2.1).bind fun bt237 => ((line_Put.f k bt237.1 2 bt217.1 bt217.2.1 bt217.2.2.1 bt217.2.2.2.1 bt217.2.2.2.2.1 bt217.2.2.2.2.2.1 bt217.2.2.2.2.2.2.1).bind fun bt241 => (if bt237.2 = true then ((cell_Rest.f bt208.1 bt208.2.1 bt208.2.2.1 bt208.2.2.2.1 bt208.2.2.2.2.1 bt208.2.2.2.2.2.1 bt208.2.2.2.2.2.2.1).bind fun bt245 => ((line_Same.f k bt237.1 (([(⟨bt226.1, (⟨bt226.2.1, bt226.2.2.1⟩ : S22), bt226.2.2.2.1, (⟨bt226.2.2.2.2.1, bt226.2.2.2.2.2.1, bt226.2.2.2.2.2.2⟩ : S24)⟩ : S26), (⟨bt208.1, (⟨bt208.2.1, bt208.2.2.1⟩ : S22), bt208.2.2.2.1, (⟨bt208.2.2.2.2.1, bt208.2.2.2.2.2.1, bt208.2.2.2.2.2.2.1⟩ : S24)⟩ : S26), (⟨bt245.1, (⟨bt245.2.1, bt245.2.2.1⟩ : S22), bt245.2.2.2.1, (⟨bt245.2.2.2.2.1, bt245.2.2.2.2.2.1, bt245.2.2.2.2.2.2⟩ : S24)⟩ : S26), (⟨bt226.1, (⟨bt226.2.1, bt226.2.2.1⟩ : S22), bt226.2.2.2.1, (⟨bt226.2.2.2.2.1, bt226.2.2.2.2.2.1, bt226.2.2.2.2.2.2⟩ : S24)⟩ : S26)] : List (S26)))).bind fun t255 => (if t255 = true then (if bt241.2 = true then ((line_Same.f k bt241.1 (([(⟨bt226.1, (⟨bt226.2.1, bt226.2.2.1⟩ : S22), bt226.2.2.2.1, (⟨bt226.2.2.2.2.1, bt226.2.2.2.2.2.1, bt226.2.2.2.2.2.2⟩ : S24)⟩ : S26), (⟨bt226.1, (⟨bt226.2.1, bt226.2.2.1⟩ : S22), bt226.2.2.2.1, (⟨bt226.2.2.2.2.1, bt226.2.2.2.2.2.1, bt226.2.2.2.2.2.2⟩ : S24)⟩ : S26), (⟨bt217.1, (⟨bt217.2.1, bt217.2.2.1⟩ : S22), bt217.2.2.2.1, (⟨bt217.2.2.2.2.1, bt217.2.2.2.2.2.1, bt217.2.2.2.2.2.2.1⟩ : S24)⟩ : S26), (⟨bt226.1, (⟨bt226.2.1, bt226.2.2.1⟩ : S22), bt226.2.2.2.1, (⟨bt226.2.2.2.2.1, bt226.2.2.2.2.2.1, bt226.2.2.2.2.2.2⟩ : S24)⟩ : S26)] : List (S26)))).bind fun t259 => (if t259 = true then (some (bt226.1 == 32)) else (some false))) else (some false)) else (some false)))) else (some false)))))))
def prolepsislaw06_knownB.T4 : Bool × List (List Nat × List Nat) := (true, [([], []), ([], []), ([0, 1, 0], [0, 1]), ([2], [2]), ([3], [3]), ([3], [3]), ([4, 2, 0, 1, 2, 3, 4], [4]), ([5, 6, 0, 1, 2, 3, 4, 5, 6], [5])])
def prolepsislaw06_knownB.B4 : List Nat := [0, 0, 3, 7, 15, 15, 31, 127]
theorem prolepsislaw06_knownB.tab4 : rtab .any (opsOf Try.f41 4) = prolepsislaw06_knownB.T4 := by kernel_rfl
theorem prolepsislaw06_knownB.bits4 : waitsOk prolepsislaw06_knownB.T4.2 prolepsislaw06_knownB.B4 = true := by kernel_rfl
def prolepsislaw06_knownB.T6 : Bool × List (List Nat × List Nat) := (true, [([], []), ([0], [0]), ([1], [1]), ([1], [1]), ([1], [1]), ([1], [1]), ([5, 1, 1], [1, 5]), ([1], [1]), ([3, 4, 6, 7, 1], [1, 3, 4, 6, 7]), ([2, 8, 6, 1], [1, 2, 8]), ([1, 9], [1, 9]), ([10, 9], [10]), ([11], [11]), ([11, 12], [11, 12]), ([13, 11], [13]), ([14], [14]), ([14], [14]), ([14], [14]), ([14], [14]), ([14], [14]), ([16, 17, 18, 19, 14], [14, 16, 17, 18, 19]), ([15, 20, 14, 14], [14, 15, 20]), ([14, 21], [14, 21]), ([22, 21], [22]), ([23], [23]), ([24, 23], [23, 24]), ([25, 23], [23, 25]), ([23, 26], [23, 26]), ([27, 23, 0, 1, 2, 3, 4, 5, 6, 7, 8, 9, 10, 11, 12, 13, 14, 15, 16, 17, 18, 19, 20, 21, 22, 23, 24, 25, 26, 27], [27])])
def prolepsislaw06_knownB.B6 : List Nat := [0, 1, 3, 3, 3, 3, 35, 3, 251, 511, 1023, 2047, 4095, 8191, 16383, 32767, 32767, 32767, 32767, 32767, 1015807, 2097151, 4194303, 8388607, 16777215, 33554431, 67108863, 134217727, 268435455]
theorem prolepsislaw06_knownB.tab6 : rtab .any (opsOf Try.f41 6) = prolepsislaw06_knownB.T6 := by kernel_rfl
theorem prolepsislaw06_knownB.bits6 : waitsOk prolepsislaw06_knownB.T6.2 prolepsislaw06_knownB.B6 = true := by kernel_rfl
set_option maxHeartbeats 8000000 in
set_option maxRecDepth 100000 in
theorem prolepsislaw06_knownB.calls (k : Nat)  (r : Bool) (w : World) (h : prolepsislaw06_knownB.f k  = some r) (hr : r = true) :
    Calls Try.prog 41 #[] w fun e w' => e = .returned (.bool r) ∧ Below w.heap.size w w' := by
  have HRT := Aside0.mk hr
  clear hr
  have hu24 := Try.underlying24
  have hu26 := Try.underlying26
  have HB := aS (Below.refl w.heap.size w)
  have H : ((cell_Of.f 12354 0 0 0).bind fun bt208 => ((cell_Of.f 97 0 0 0).bind fun bt217 => ((cell_Blank.f 0 0 0).bind fun bt226 => ((line_New.f k 4).bind fun t234 => ((line_Put.f k t234 1 bt208.1 bt208.2.1 bt208.2.2.1 bt208.2.2.2.1 bt208.2.2.2.2.1 bt208.2.2.2.2.2.1 bt208.2.2.2.2.2.2.1).bind fun bt237 => ((line_Put.f k bt237.1 2 bt217.1 bt217.2.1 bt217.2.2.1 bt217.2.2.2.1 bt217.2.2.2.2.1 bt217.2.2.2.2.2.1 bt217.2.2.2.2.2.2.1).bind fun bt241 => (if bt237.2 = true then ((cell_Rest.f bt208.1 bt208.2.1 bt208.2.2.1 bt208.2.2.2.1 bt208.2.2.2.2.1 bt208.2.2.2.2.2.1 bt208.2.2.2.2.2.2.1).bind fun bt245 => ((line_Same.f k bt237.1 (([(⟨bt226.1, (⟨bt226.2.1, bt226.2.2.1⟩ : S22), bt226.2.2.2.1, (⟨bt226.2.2.2.2.1, bt226.2.2.2.2.2.1, bt226.2.2.2.2.2.2⟩ : S24)⟩ : S26), (⟨bt208.1, (⟨bt208.2.1, bt208.2.2.1⟩ : S22), bt208.2.2.2.1, (⟨bt208.2.2.2.2.1, bt208.2.2.2.2.2.1, bt208.2.2.2.2.2.2.1⟩ : S24)⟩ : S26), (⟨bt245.1, (⟨bt245.2.1, bt245.2.2.1⟩ : S22), bt245.2.2.2.1, (⟨bt245.2.2.2.2.1, bt245.2.2.2.2.2.1, bt245.2.2.2.2.2.2⟩ : S24)⟩ : S26), (⟨bt226.1, (⟨bt226.2.1, bt226.2.2.1⟩ : S22), bt226.2.2.2.1, (⟨bt226.2.2.2.2.1, bt226.2.2.2.2.2.1, bt226.2.2.2.2.2.2⟩ : S24)⟩ : S26)] : List (S26)))).bind fun t255 => (if t255 = true then (if bt241.2 = true then ((line_Same.f k bt241.1 (([(⟨bt226.1, (⟨bt226.2.1, bt226.2.2.1⟩ : S22), bt226.2.2.2.1, (⟨bt226.2.2.2.2.1, bt226.2.2.2.2.2.1, bt226.2.2.2.2.2.2⟩ : S24)⟩ : S26), (⟨bt226.1, (⟨bt226.2.1, bt226.2.2.1⟩ : S22), bt226.2.2.2.1, (⟨bt226.2.2.2.2.1, bt226.2.2.2.2.2.1, bt226.2.2.2.2.2.2⟩ : S24)⟩ : S26), (⟨bt217.1, (⟨bt217.2.1, bt217.2.2.1⟩ : S22), bt217.2.2.2.1, (⟨bt217.2.2.2.2.1, bt217.2.2.2.2.2.1, bt217.2.2.2.2.2.2.1⟩ : S24)⟩ : S26), (⟨bt226.1, (⟨bt226.2.1, bt226.2.2.1⟩ : S22), bt226.2.2.2.1, (⟨bt226.2.2.2.2.1, bt226.2.2.2.2.2.1, bt226.2.2.2.2.2.2⟩ : S24)⟩ : S26)] : List (S26)))).bind fun t259 => (if t259 = true then (some (bt226.1 == 32)) else (some false))) else (some false)) else (some false)))) else (some false)))))))) = some r := h
  clear h
  replace H := Option.bind_eq_some_iff.mp H
  obtain ⟨⟨t208, t209, t210, t211, t212, t213, t214, t215⟩, A10, H⟩ := H
  try dsimp only at H
  have A1 := Aside0.mk A10
  clear A10
  replace H := Option.bind_eq_some_iff.mp H
  obtain ⟨⟨t217, t218, t219, t220, t221, t222, t223, t224⟩, A20, H⟩ := H
  try dsimp only at H
  have A2 := Aside0.mk A20
  clear A20
  replace H := Option.bind_eq_some_iff.mp H
  obtain ⟨⟨t226, t227, t228, t229, t230, t231, t232⟩, A30, H⟩ := H
  try dsimp only at H
  have A3 := Aside0.mk A30
  clear A30
  replace H := Option.bind_eq_some_iff.mp H
  obtain ⟨t234, A40, H⟩ := H
  try dsimp only at H
  have A4 := Aside0.mk A40
  clear A40
  replace H := Option.bind_eq_some_iff.mp H
  obtain ⟨⟨t237, t240⟩, A50, H⟩ := H
  try dsimp only at H
  have A5 := Aside0.mk A50
  clear A50
  replace H := Option.bind_eq_some_iff.mp H
  obtain ⟨⟨t241, t244⟩, A60, H⟩ := H
  try dsimp only at H
  have A6 := Aside0.mk A60
  clear A60
  by_cases c7 : t240 = true
  · subst c7
    have H1 : ((cell_Rest.f t208 t209 t210 t211 t212 t213 t214).bind fun bt245 => ((line_Same.f k t237 (([(⟨t226, (⟨t227, t228⟩ : S22), t229, (⟨t230, t231, t232⟩ : S24)⟩ : S26), (⟨t208, (⟨t209, t210⟩ : S22), t211, (⟨t212, t213, t214⟩ : S24)⟩ : S26), (⟨bt245.1, (⟨bt245.2.1, bt245.2.2.1⟩ : S22), bt245.2.2.2.1, (⟨bt245.2.2.2.2.1, bt245.2.2.2.2.2.1, bt245.2.2.2.2.2.2⟩ : S24)⟩ : S26), (⟨t226, (⟨t227, t228⟩ : S22), t229, (⟨t230, t231, t232⟩ : S24)⟩ : S26)] : List (S26)))).bind fun t255 => (if t255 = true then (if t244 = true then ((line_Same.f k t241 (([(⟨t226, (⟨t227, t228⟩ : S22), t229, (⟨t230, t231, t232⟩ : S24)⟩ : S26), (⟨t226, (⟨t227, t228⟩ : S22), t229, (⟨t230, t231, t232⟩ : S24)⟩ : S26), (⟨t217, (⟨t218, t219⟩ : S22), t220, (⟨t221, t222, t223⟩ : S24)⟩ : S26), (⟨t226, (⟨t227, t228⟩ : S22), t229, (⟨t230, t231, t232⟩ : S24)⟩ : S26)] : List (S26)))).bind fun t259 => (if t259 = true then (some (t226 == 32)) else (some false))) else (some false)) else (some false)))) = some r := by rw [if_pos rfl] at H; exact H
    clear H
    have H := H1
    clear H1
    replace H := Option.bind_eq_some_iff.mp H
    obtain ⟨⟨t245, t246, t247, t248, t249, t250, t251⟩, A80, H⟩ := H
    try dsimp only at H
    have A8 := Aside0.mk A80
    clear A80
    obtain ⟨y252, hy252⟩ : ∃ y_ : List (S26), y_ = (([(⟨t226, (⟨t227, t228⟩ : S22), t229, (⟨t230, t231, t232⟩ : S24)⟩ : S26), (⟨t208, (⟨t209, t210⟩ : S22), t211, (⟨t212, t213, t214⟩ : S24)⟩ : S26), (⟨t245, (⟨t246, t247⟩ : S22), t248, (⟨t249, t250, t251⟩ : S24)⟩ : S26), (⟨t226, (⟨t227, t228⟩ : S22), t229, (⟨t230, t231, t232⟩ : S24)⟩ : S26)] : List (S26))) := ⟨_, rfl⟩
    replace H : ((line_Same.f k t237 y252).bind fun t255 => (if t255 = true then (if t244 = true then ((line_Same.f k t241 (([(⟨t226, (⟨t227, t228⟩ : S22), t229, (⟨t230, t231, t232⟩ : S24)⟩ : S26), (⟨t226, (⟨t227, t228⟩ : S22), t229, (⟨t230, t231, t232⟩ : S24)⟩ : S26), (⟨t217, (⟨t218, t219⟩ : S22), t220, (⟨t221, t222, t223⟩ : S24)⟩ : S26), (⟨t226, (⟨t227, t228⟩ : S22), t229, (⟨t230, t231, t232⟩ : S24)⟩ : S26)] : List (S26)))).bind fun t259 => (if t259 = true then (some (t226 == 32)) else (some false))) else (some false)) else (some false))) = some r := by first | (rw [hy252]; with_reducible exact H) | (have H2_ := (Option.bind_some _ _).symm.trans H; rw [hy252]; with_reducible exact H2_) | (have H2_ := (Option.bind_some _ _).symm.trans H; with_reducible exact H2_) | with_reducible exact H | (rw [hy252]; exact H) | exact H
    have Ny252 := Aside0.mk hy252
    clear hy252
    replace H := Option.bind_eq_some_iff.mp H
    obtain ⟨t255, A90, H⟩ := H
    try dsimp only at H
    have A9 := Aside0.mk A90
    clear A90
    by_cases c10 : t255 = true
    · subst c10
      have H1 : (if t244 = true then ((line_Same.f k t241 (([(⟨t226, (⟨t227, t228⟩ : S22), t229, (⟨t230, t231, t232⟩ : S24)⟩ : S26), (⟨t226, (⟨t227, t228⟩ : S22), t229, (⟨t230, t231, t232⟩ : S24)⟩ : S26), (⟨t217, (⟨t218, t219⟩ : S22), t220, (⟨t221, t222, t223⟩ : S24)⟩ : S26), (⟨t226, (⟨t227, t228⟩ : S22), t229, (⟨t230, t231, t232⟩ : S24)⟩ : S26)] : List (S26)))).bind fun t259 => (if t259 = true then (some (t226 == 32)) else (some false))) else (some false)) = some r := by rw [if_pos rfl] at H; exact H
      clear H
      have H := H1
      clear H1
      by_cases c11 : t244 = true
      · subst c11
        have H1 : ((line_Same.f k t241 (([(⟨t226, (⟨t227, t228⟩ : S22), t229, (⟨t230, t231, t232⟩ : S24)⟩ : S26), (⟨t226, (⟨t227, t228⟩ : S22), t229, (⟨t230, t231, t232⟩ : S24)⟩ : S26), (⟨t217, (⟨t218, t219⟩ : S22), t220, (⟨t221, t222, t223⟩ : S24)⟩ : S26), (⟨t226, (⟨t227, t228⟩ : S22), t229, (⟨t230, t231, t232⟩ : S24)⟩ : S26)] : List (S26)))).bind fun t259 => (if t259 = true then (some (t226 == 32)) else (some false))) = some r := by rw [if_pos rfl] at H; exact H
        clear H
        have H := H1
        clear H1
        obtain ⟨y256, hy256⟩ : ∃ y_ : List (S26), y_ = (([(⟨t226, (⟨t227, t228⟩ : S22), t229, (⟨t230, t231, t232⟩ : S24)⟩ : S26), (⟨t226, (⟨t227, t228⟩ : S22), t229, (⟨t230, t231, t232⟩ : S24)⟩ : S26), (⟨t217, (⟨t218, t219⟩ : S22), t220, (⟨t221, t222, t223⟩ : S24)⟩ : S26), (⟨t226, (⟨t227, t228⟩ : S22), t229, (⟨t230, t231, t232⟩ : S24)⟩ : S26)] : List (S26))) := ⟨_, rfl⟩
        replace H : ((line_Same.f k t241 y256).bind fun t259 => (if t259 = true then (some (t226 == 32)) else (some false))) = some r := by first | (rw [hy256]; with_reducible exact H) | (have H2_ := (Option.bind_some _ _).symm.trans H; rw [hy256]; with_reducible exact H2_) | (have H2_ := (Option.bind_some _ _).symm.trans H; with_reducible exact H2_) | with_reducible exact H | (rw [hy256]; exact H) | exact H
        have Ny256 := Aside0.mk hy256
        clear hy256
        replace H := Option.bind_eq_some_iff.mp H
        obtain ⟨t259, A120, H⟩ := H
        try dsimp only at H
        have A12 := Aside0.mk A120
        clear A120
        by_cases c13 : t259 = true
        · subst c13
          have H1 : (some (t226 == 32)) = some r := by rw [if_pos rfl] at H; exact H
          clear H
          have H := H1
          clear H1
          obtain rfl := Option.some.inj H
          go_enter Try.func41, Try.ntmps41
          try go_wp2_with (first | ((with_reducible refine gate_callee (f := 14) rfl ?_); refine goesL_ (some 12) rfl rfl Try.func14 (by kernel_rfl) rfl #[.int .i32 12354, .agg #[.int .u8 0, .int .u8 0, .int .u8 0]] rfl (by (try simp only [List.map_toArray, List.map_cons, List.map_nil]); first | done | rfl | (simp only [List.length_drop, List.length_take]; rfl)) ?_; (with_reducible refine (cell_Of.calls 12354 0 0 0 t208 t209 t210 t211 t212 t213 t214 t215 _ A1.out).mono ?_); rintro e w14 ⟨rfl, hb⟩; refine ⟨_, rfl, ?_⟩; have n0_ := aS (below_step (by repeat (first | (with_reducible first | exact HB.out | apply lA | apply lN | apply lD) | exact HB.out)) hb); clear HB; have HB := n0_; clear n0_; (try clear hb); (try clear hb2); (try clear hk); (try clear hi)) | ((with_reducible refine gate_dst (N := 1) rfl ?_); (try (refine gate_guard (by rfl) ?_; dsimp only)); refine box_event ?hg (N := 1) ?hd (cs := #[.int .i32 0, .int .i32 0, .int .i32 0, .int .u8 0, .int .u8 0, .int .u8 0, .int .u8 0]) (t := 26) ?hr ?_; (case hd => rfl); (case hg => rfl); (case hr => first | (go_simp; done) | (go_simp; rfl)); intro gb216 hg w15 hbox hb; have n0_ := aS (below_step (by repeat (first | (with_reducible first | exact HB.out | apply lA | apply lN | apply lD) | exact HB.out)) hb); have n1_ := aS (hbox); have n2_ := aS ((by rw [hg]; exact (below_size (by repeat (first | (with_reducible first | exact HB.out | apply lA | apply lN | apply lD) | exact HB.out))) : w.heap.size ≤ gb216)); have n3_ := aS ((by rw [hg]; exact (below_size (by repeat (first | (with_reducible first | exact HB.out | apply lA | apply lN | apply lD) | exact HB.out))) : w.heap.size ≤ gb216)); clear HB; have HB := n0_; have BK216 := n1_; have GW216 := n2_; have GE216 := n3_; clear n0_ n1_ n2_ n3_; clear hb hbox hg; obtain ⟨hcz16_0, hcz16_1, hcz16_2, hcz16_3, hcz16_4, hcz16_5, hcz16_6, hfz16_0, hfz16_1, hfz16_2, hfz16_3, hfz16_4, hfz16_5, hfz16_6⟩ := cel7 BK216.out) | ((with_reducible refine gate_callee (f := 14) rfl ?_); refine goesL_ (some 17) rfl rfl Try.func14 (by kernel_rfl) rfl #[.int .i32 97, .agg #[.int .u8 0, .int .u8 0, .int .u8 0]] rfl (by (try simp only [List.map_toArray, List.map_cons, List.map_nil]); first | done | rfl | (simp only [List.length_drop, List.length_take]; rfl)) ?_; (with_reducible refine (cell_Of.calls 97 0 0 0 t217 t218 t219 t220 t221 t222 t223 t224 _ A2.out).mono ?_); rintro e w17 ⟨rfl, hb⟩; refine ⟨_, rfl, ?_⟩; have n0_ := aS (blk_below (g := gb216) (o := .cells #[.int .i32 t208, .int .i32 t209, .int .i32 t210, .int .u8 t211, .int .u8 t212, .int .u8 t213, .int .u8 t214] 26 (0, 0)) (by (with_reducible repeat (first | apply bN | apply bD | apply bA)); refine blk_put (cs := #[.int .i32 t208, .int .i32 t209, .int .i32 t210, .int .u8 t211, .int .u8 t212, .int .u8 t213, .int .u8 0]) ?_ 6 _ rfl; refine blk_put (cs := #[.int .i32 t208, .int .i32 t209, .int .i32 t210, .int .u8 t211, .int .u8 t212, .int .u8 0, .int .u8 0]) ?_ 5 _ rfl; refine blk_put (cs := #[.int .i32 t208, .int .i32 t209, .int .i32 t210, .int .u8 t211, .int .u8 0, .int .u8 0, .int .u8 0]) ?_ 4 _ rfl; refine blk_put (cs := #[.int .i32 t208, .int .i32 t209, .int .i32 t210, .int .u8 0, .int .u8 0, .int .u8 0, .int .u8 0]) ?_ 3 _ rfl; refine blk_put (cs := #[.int .i32 t208, .int .i32 t209, .int .i32 0, .int .u8 0, .int .u8 0, .int .u8 0, .int .u8 0]) ?_ 2 _ rfl; refine blk_put (cs := #[.int .i32 t208, .int .i32 0, .int .i32 0, .int .u8 0, .int .u8 0, .int .u8 0, .int .u8 0]) ?_ 1 _ rfl; refine blk_put (cs := #[.int .i32 0, .int .i32 0, .int .i32 0, .int .u8 0, .int .u8 0, .int .u8 0, .int .u8 0]) ?_ 0 _ rfl; (with_reducible repeat (first | apply bN | apply bD | apply bA)); exact BK216.out) hb); have n1_ := aS (below_step (by repeat (first | (with_reducible first | exact HB.out | apply lA | apply lN | apply lD | refine below_set ?_ GE216.out) | exact HB.out)) hb); clear BK216; clear HB; have BK216 := n0_; have HB := n1_; clear n0_ n1_; (try clear hb); (try clear hb2); (try clear hk); (try clear hi)) | ((with_reducible refine gate_dst (N := 3) rfl ?_); (try (refine gate_guard (by rfl) ?_; dsimp only)); refine box_event ?hg (N := 3) ?hd (cs := #[.int .i32 0, .int .i32 0, .int .i32 0, .int .u8 0, .int .u8 0, .int .u8 0, .int .u8 0]) (t := 26) ?hr ?_; (case hd => rfl); (case hg => rfl); (case hr => first | (go_simp; done) | (go_simp; rfl)); intro gb225 hg w18 hbox hb; have n0_ := aS (blk_below (g := gb216) (o := .cells #[.int .i32 t208, .int .i32 t209, .int .i32 t210, .int .u8 t211, .int .u8 t212, .int .u8 t213, .int .u8 t214] 26 (0, 0)) (by (with_reducible repeat (first | apply bN | apply bD | apply bA)); exact BK216.out) hb); have n1_ := aS (below_step (by repeat (first | (with_reducible first | exact HB.out | apply lA | apply lN | apply lD | refine below_set ?_ GE216.out) | exact HB.out)) hb); have n2_ := aS (hbox); have n3_ := aS ((by rw [hg]; exact (below_size (by repeat (first | (with_reducible first | exact HB.out | apply lA | apply lN | apply lD | refine below_set ?_ GE216.out) | exact HB.out))) : w.heap.size ≤ gb225)); have n4_ := aS ((by rw [hg]; exact (below_size (by repeat (first | (with_reducible first | exact HB.out | apply lA | apply lN | apply lD | refine below_set ?_ GE216.out) | exact HB.out))) : w.heap.size ≤ gb225)); have n5_ := aS ((by rw [hg]; exact Nat.ne_of_lt (blk_lt (g := gb216) (o := .cells #[.int .i32 t208, .int .i32 t209, .int .i32 t210, .int .u8 t211, .int .u8 t212, .int .u8 t213, .int .u8 t214] 26 (0, 0)) (by (with_reducible repeat (first | apply bN | apply bD | apply bA)); exact BK216.out)) : gb216 ≠ gb225)); have n6_ := aS ((by rw [hg]; exact Nat.ne_of_gt (blk_lt (g := gb216) (o := .cells #[.int .i32 t208, .int .i32 t209, .int .i32 t210, .int .u8 t211, .int .u8 t212, .int .u8 t213, .int .u8 t214] 26 (0, 0)) (by (with_reducible repeat (first | apply bN | apply bD | apply bA)); exact BK216.out)) : gb225 ≠ gb216)); clear BK216; clear HB; have BK216 := n0_; have HB := n1_; have BK225 := n2_; have GW225 := n3_; have GE225 := n4_; have NB216_225 := n5_; have NB225_216 := n6_; clear n0_ n1_ n2_ n3_ n4_ n5_ n6_; clear hb hbox hg; have hnb19 := NB225_216.out; have hnc19 := NB216_225.out; obtain ⟨hcz20_0, hcz20_1, hcz20_2, hcz20_3, hcz20_4, hcz20_5, hcz20_6, hfz20_0, hfz20_1, hfz20_2, hfz20_3, hfz20_4, hfz20_5, hfz20_6⟩ := cel7 BK225.out) | ((with_reducible refine gate_callee (f := 21) rfl ?_); refine goesL_ (some 21) rfl rfl Try.func21 (by kernel_rfl) rfl #[.agg #[.int .u8 0, .int .u8 0, .int .u8 0]] rfl (by (try simp only [List.map_toArray, List.map_cons, List.map_nil]); first | done | rfl | (simp only [List.length_drop, List.length_take]; rfl)) ?_; (with_reducible refine (cell_Blank.calls 0 0 0 t226 t227 t228 t229 t230 t231 t232 _ A3.out).mono ?_); rintro e w21 ⟨rfl, hb⟩; refine ⟨_, rfl, ?_⟩; have n0_ := aS (blk_below (g := gb216) (o := .cells #[.int .i32 t208, .int .i32 t209, .int .i32 t210, .int .u8 t211, .int .u8 t212, .int .u8 t213, .int .u8 t214] 26 (0, 0)) (by (with_reducible repeat (first | apply bN | apply bD | apply bA)); refine blk_far ?_ NB216_225.out _; refine blk_far ?_ NB216_225.out _; refine blk_far ?_ NB216_225.out _; refine blk_far ?_ NB216_225.out _; refine blk_far ?_ NB216_225.out _; refine blk_far ?_ NB216_225.out _; refine blk_far ?_ NB216_225.out _; (with_reducible repeat (first | apply bN | apply bD | apply bA)); exact BK216.out) hb); have n1_ := aS (blk_below (g := gb225) (o := .cells #[.int .i32 t217, .int .i32 t218, .int .i32 t219, .int .u8 t220, .int .u8 t221, .int .u8 t222, .int .u8 t223] 26 (0, 0)) (by (with_reducible repeat (first | apply bN | apply bD | apply bA)); refine blk_put (cs := #[.int .i32 t217, .int .i32 t218, .int .i32 t219, .int .u8 t220, .int .u8 t221, .int .u8 t222, .int .u8 0]) ?_ 6 _ rfl; refine blk_put (cs := #[.int .i32 t217, .int .i32 t218, .int .i32 t219, .int .u8 t220, .int .u8 t221, .int .u8 0, .int .u8 0]) ?_ 5 _ rfl; refine blk_put (cs := #[.int .i32 t217, .int .i32 t218, .int .i32 t219, .int .u8 t220, .int .u8 0, .int .u8 0, .int .u8 0]) ?_ 4 _ rfl; refine blk_put (cs := #[.int .i32 t217, .int .i32 t218, .int .i32 t219, .int .u8 0, .int .u8 0, .int .u8 0, .int .u8 0]) ?_ 3 _ rfl; refine blk_put (cs := #[.int .i32 t217, .int .i32 t218, .int .i32 0, .int .u8 0, .int .u8 0, .int .u8 0, .int .u8 0]) ?_ 2 _ rfl; refine blk_put (cs := #[.int .i32 t217, .int .i32 0, .int .i32 0, .int .u8 0, .int .u8 0, .int .u8 0, .int .u8 0]) ?_ 1 _ rfl; refine blk_put (cs := #[.int .i32 0, .int .i32 0, .int .i32 0, .int .u8 0, .int .u8 0, .int .u8 0, .int .u8 0]) ?_ 0 _ rfl; (with_reducible repeat (first | apply bN | apply bD | apply bA)); exact BK225.out) hb); have n2_ := aS (below_step (by repeat (first | (with_reducible first | exact HB.out | apply lA | apply lN | apply lD | refine below_set ?_ GE216.out | refine below_set ?_ GE225.out) | exact HB.out)) hb); clear BK216; clear BK225; clear HB; have BK216 := n0_; have BK225 := n1_; have HB := n2_; clear n0_ n1_ n2_; (try clear hb); (try clear hb2); (try clear hk); (try clear hi)) | ((with_reducible refine gate_dst (N := 5) rfl ?_); (try (refine gate_guard (by rfl) ?_; dsimp only)); refine box_event ?hg (N := 5) ?hd (cs := #[.int .i32 0, .int .i32 0, .int .i32 0, .int .u8 0, .int .u8 0, .int .u8 0, .int .u8 0]) (t := 26) ?hr ?_; (case hd => rfl); (case hg => rfl); (case hr => first | (go_simp; done) | (go_simp; rfl)); intro gb233 hg w22 hbox hb; have n0_ := aS (blk_below (g := gb216) (o := .cells #[.int .i32 t208, .int .i32 t209, .int .i32 t210, .int .u8 t211, .int .u8 t212, .int .u8 t213, .int .u8 t214] 26 (0, 0)) (by (with_reducible repeat (first | apply bN | apply bD | apply bA)); exact BK216.out) hb); have n1_ := aS (blk_below (g := gb225) (o := .cells #[.int .i32 t217, .int .i32 t218, .int .i32 t219, .int .u8 t220, .int .u8 t221, .int .u8 t222, .int .u8 t223] 26 (0, 0)) (by (with_reducible repeat (first | apply bN | apply bD | apply bA)); exact BK225.out) hb); have n2_ := aS (below_step (by repeat (first | (with_reducible first | exact HB.out | apply lA | apply lN | apply lD | refine below_set ?_ GE216.out | refine below_set ?_ GE225.out) | exact HB.out)) hb); have n3_ := aS (hbox); have n4_ := aS ((by rw [hg]; exact (below_size (by repeat (first | (with_reducible first | exact HB.out | apply lA | apply lN | apply lD | refine below_set ?_ GE216.out | refine below_set ?_ GE225.out) | exact HB.out))) : w.heap.size ≤ gb233)); have n5_ := aS ((by rw [hg]; exact (below_size (by repeat (first | (with_reducible first | exact HB.out | apply lA | apply lN | apply lD | refine below_set ?_ GE216.out | refine below_set ?_ GE225.out) | exact HB.out))) : w.heap.size ≤ gb233)); have n6_ := aS ((by rw [hg]; exact Nat.ne_of_lt (blk_lt (g := gb216) (o := .cells #[.int .i32 t208, .int .i32 t209, .int .i32 t210, .int .u8 t211, .int .u8 t212, .int .u8 t213, .int .u8 t214] 26 (0, 0)) (by (with_reducible repeat (first | apply bN | apply bD | apply bA)); exact BK216.out)) : gb216 ≠ gb233)); have n7_ := aS ((by rw [hg]; exact Nat.ne_of_gt (blk_lt (g := gb216) (o := .cells #[.int .i32 t208, .int .i32 t209, .int .i32 t210, .int .u8 t211, .int .u8 t212, .int .u8 t213, .int .u8 t214] 26 (0, 0)) (by (with_reducible repeat (first | apply bN | apply bD | apply bA)); exact BK216.out)) : gb233 ≠ gb216)); have n8_ := aS ((by rw [hg]; exact Nat.ne_of_lt (blk_lt (g := gb225) (o := .cells #[.int .i32 t217, .int .i32 t218, .int .i32 t219, .int .u8 t220, .int .u8 t221, .int .u8 t222, .int .u8 t223] 26 (0, 0)) (by (with_reducible repeat (first | apply bN | apply bD | apply bA)); exact BK225.out)) : gb225 ≠ gb233)); have n9_ := aS ((by rw [hg]; exact Nat.ne_of_gt (blk_lt (g := gb225) (o := .cells #[.int .i32 t217, .int .i32 t218, .int .i32 t219, .int .u8 t220, .int .u8 t221, .int .u8 t222, .int .u8 t223] 26 (0, 0)) (by (with_reducible repeat (first | apply bN | apply bD | apply bA)); exact BK225.out)) : gb233 ≠ gb225)); clear BK216; clear BK225; clear HB; have BK216 := n0_; have BK225 := n1_; have HB := n2_; have BK233 := n3_; have GW233 := n4_; have GE233 := n5_; have NB216_233 := n6_; have NB233_216 := n7_; have NB225_233 := n8_; have NB233_225 := n9_; clear n0_ n1_ n2_ n3_ n4_ n5_ n6_ n7_ n8_ n9_; clear hb hbox hg; have hnb23 := NB233_216.out; have hnc23 := NB216_233.out; have hnb24 := NB233_225.out; have hnc24 := NB225_233.out; obtain ⟨hcz25_0, hcz25_1, hcz25_2, hcz25_3, hcz25_4, hcz25_5, hcz25_6, hfz25_0, hfz25_1, hfz25_2, hfz25_3, hfz25_4, hfz25_5, hfz25_6⟩ := cel7 BK233.out))
          have n0_ : Aside0 ((((((((w22.setCell ⟨gb233, 0, none⟩ (.int .i32 t226)).setCell ⟨gb233, 1, none⟩ (.int .i32 t227)).setCell ⟨gb233, 2, none⟩ (.int .i32 t228)).setCell ⟨gb233, 3, none⟩ (.int .u8 t229)).setCell ⟨gb233, 4, none⟩ (.int .u8 t230)).setCell ⟨gb233, 5, none⟩ (.int .u8 t231)).setCell ⟨gb233, 6, none⟩ (.int .u8 t232)).heap[gb216]? = some (.cells #[.int .i32 t208, .int .i32 t209, .int .i32 t210, .int .u8 t211, .int .u8 t212, .int .u8 t213, .int .u8 t214] 26 (0, 0))) := ⟨by (with_reducible repeat (first | apply bN | apply bD | apply bA)); refine blk_far ?_ NB216_233.out _; refine blk_far ?_ NB216_233.out _; refine blk_far ?_ NB216_233.out _; refine blk_far ?_ NB216_233.out _; refine blk_far ?_ NB216_233.out _; refine blk_far ?_ NB216_233.out _; refine blk_far ?_ NB216_233.out _; (with_reducible repeat (first | apply bN | apply bD | apply bA)); exact BK216.out⟩
          have n1_ : Aside0 ((((((((w22.setCell ⟨gb233, 0, none⟩ (.int .i32 t226)).setCell ⟨gb233, 1, none⟩ (.int .i32 t227)).setCell ⟨gb233, 2, none⟩ (.int .i32 t228)).setCell ⟨gb233, 3, none⟩ (.int .u8 t229)).setCell ⟨gb233, 4, none⟩ (.int .u8 t230)).setCell ⟨gb233, 5, none⟩ (.int .u8 t231)).setCell ⟨gb233, 6, none⟩ (.int .u8 t232)).heap[gb225]? = some (.cells #[.int .i32 t217, .int .i32 t218, .int .i32 t219, .int .u8 t220, .int .u8 t221, .int .u8 t222, .int .u8 t223] 26 (0, 0))) := ⟨by (with_reducible repeat (first | apply bN | apply bD | apply bA)); refine blk_far ?_ NB225_233.out _; refine blk_far ?_ NB225_233.out _; refine blk_far ?_ NB225_233.out _; refine blk_far ?_ NB225_233.out _; refine blk_far ?_ NB225_233.out _; refine blk_far ?_ NB225_233.out _; refine blk_far ?_ NB225_233.out _; (with_reducible repeat (first | apply bN | apply bD | apply bA)); exact BK225.out⟩
          have n2_ : Aside0 ((((((((w22.setCell ⟨gb233, 0, none⟩ (.int .i32 t226)).setCell ⟨gb233, 1, none⟩ (.int .i32 t227)).setCell ⟨gb233, 2, none⟩ (.int .i32 t228)).setCell ⟨gb233, 3, none⟩ (.int .u8 t229)).setCell ⟨gb233, 4, none⟩ (.int .u8 t230)).setCell ⟨gb233, 5, none⟩ (.int .u8 t231)).setCell ⟨gb233, 6, none⟩ (.int .u8 t232)).heap[gb233]? = some (.cells #[.int .i32 t226, .int .i32 t227, .int .i32 t228, .int .u8 t229, .int .u8 t230, .int .u8 t231, .int .u8 t232] 26 (0, 0))) := ⟨by (with_reducible repeat (first | apply bN | apply bD | apply bA)); refine blk_put (cs := #[.int .i32 t226, .int .i32 t227, .int .i32 t228, .int .u8 t229, .int .u8 t230, .int .u8 t231, .int .u8 0]) ?_ 6 _ rfl; refine blk_put (cs := #[.int .i32 t226, .int .i32 t227, .int .i32 t228, .int .u8 t229, .int .u8 t230, .int .u8 0, .int .u8 0]) ?_ 5 _ rfl; refine blk_put (cs := #[.int .i32 t226, .int .i32 t227, .int .i32 t228, .int .u8 t229, .int .u8 0, .int .u8 0, .int .u8 0]) ?_ 4 _ rfl; refine blk_put (cs := #[.int .i32 t226, .int .i32 t227, .int .i32 t228, .int .u8 0, .int .u8 0, .int .u8 0, .int .u8 0]) ?_ 3 _ rfl; refine blk_put (cs := #[.int .i32 t226, .int .i32 t227, .int .i32 0, .int .u8 0, .int .u8 0, .int .u8 0, .int .u8 0]) ?_ 2 _ rfl; refine blk_put (cs := #[.int .i32 t226, .int .i32 0, .int .i32 0, .int .u8 0, .int .u8 0, .int .u8 0, .int .u8 0]) ?_ 1 _ rfl; refine blk_put (cs := #[.int .i32 0, .int .i32 0, .int .i32 0, .int .u8 0, .int .u8 0, .int .u8 0, .int .u8 0]) ?_ 0 _ rfl; (with_reducible repeat (first | apply bN | apply bD | apply bA)); exact BK233.out⟩
          have n3_ : Aside0 (Below w.heap.size w (((((((w22.setCell ⟨gb233, 0, none⟩ (.int .i32 t226)).setCell ⟨gb233, 1, none⟩ (.int .i32 t227)).setCell ⟨gb233, 2, none⟩ (.int .i32 t228)).setCell ⟨gb233, 3, none⟩ (.int .u8 t229)).setCell ⟨gb233, 4, none⟩ (.int .u8 t230)).setCell ⟨gb233, 5, none⟩ (.int .u8 t231)).setCell ⟨gb233, 6, none⟩ (.int .u8 t232))) := ⟨by repeat (first | (with_reducible first | exact HB.out | apply lA | apply lN | apply lD | refine below_set ?_ GE216.out | refine below_set ?_ GE225.out | refine below_set ?_ GE233.out) | exact HB.out)⟩
          (try clear BK216)
          (try clear BK225)
          (try clear BK233)
          (try clear HB)
          generalize (((((((w22.setCell ⟨gb233, 0, none⟩ (.int .i32 t226)).setCell ⟨gb233, 1, none⟩ (.int .i32 t227)).setCell ⟨gb233, 2, none⟩ (.int .i32 t228)).setCell ⟨gb233, 3, none⟩ (.int .u8 t229)).setCell ⟨gb233, 4, none⟩ (.int .u8 t230)).setCell ⟨gb233, 5, none⟩ (.int .u8 t231)).setCell ⟨gb233, 6, none⟩ (.int .u8 t232)) = w26 at n0_ n1_ n2_ n3_ ⊢
          have BK216 := n0_
          have BK225 := n1_
          have BK233 := n2_
          have HB := n3_
          clear n0_ n1_ n2_ n3_
          have n0_ := aS (blk_drew BK216.out)
          have n1_ := aS (blk_drew BK225.out)
          have n2_ := aS (blk_drew BK233.out)
          have n3_ := aS (below_drew1 HB.out)
          clear BK216
          clear BK225
          clear BK233
          clear HB
          have BK216 := n0_
          have BK225 := n1_
          have BK233 := n2_
          have HB := n3_
          clear n0_ n1_ n2_ n3_
          refine start_ (n := 8) (S := fun w' => w'.cell? ⟨gb216, 0, none⟩ = some (.int .i32 t208) ∧ w'.cell? ⟨gb216, 1, none⟩ = some (.int .i32 t209) ∧ w'.cell? ⟨gb216, 2, none⟩ = some (.int .i32 t210) ∧ w'.cell? ⟨gb216, 3, none⟩ = some (.int .u8 t211) ∧ w'.cell? ⟨gb216, 4, none⟩ = some (.int .u8 t212) ∧ w'.cell? ⟨gb216, 5, none⟩ = some (.int .u8 t213) ∧ w'.cell? ⟨gb216, 6, none⟩ = some (.int .u8 t214)) (ds := []) (tf 0 8) (by kernel_rfl) rfl rfl ⟨(blk_cell BK216.out 0).trans rfl, (blk_cell BK216.out 1).trans rfl, (blk_cell BK216.out 2).trans rfl, (blk_cell BK216.out 3).trans rfl, (blk_cell BK216.out 4).trans rfl, (blk_cell BK216.out 5).trans rfl, (blk_cell BK216.out 6).trans rfl⟩ (fun hHeld => ?_); refine with_tabW prolepsislaw06_knownB.tab4 prolepsislaw06_knownB.bits4 (fun HT_ HW_ => ?_)
          generalize w26.drew = w27 at BK216 BK225 BK233 HB hHeld ⊢
          refine take_ (i := 1) (N := some 24) (v := ?_) (a' := ?_) #[false, true, false, false, false, false, false, false] rfl rfl (take_ofW HT_.out HW_.out (by kernel_rfl)) (fun _ _ _ h => h) (Or.inl ⟨by rfl, ?_⟩) hHeld ?_ ?_
          rotate_left
          · rintro w' ⟨s0, s1, s2, s3, s4, s5, s6⟩
            go_simp
            with_reducible rfl
          rotate_left
          · simp only [Act.put, List.setIfInBounds_toArray, List.set_cons_zero, List.set_cons_succ, i64_w, i32_w]
            rfl
          refine one_ (i := 0) (N := some 23) (tf 2 6) rfl rfl (one_of HT_.out (by kernel_rfl)) (by decide) (fun K hK => ?_)
          refine goes_ Try.func51 (by kernel_rfl) rfl #[.int .i64 4] (by rfl) rfl rfl (by (try simp only [List.map_toArray, List.map_cons, List.map_nil]); first | done | rfl | (simp only [List.length_drop, List.length_take]; rfl)) ?_
          with_reducible refine (line_New.calls k 4 t234 _ A4.out).mono ?_
          rintro e w28 ⟨v235, rfl, ho0, hb⟩
          refine ⟨_, rfl, ?_⟩
          have n0_ := aS (Kd.R_lower (Kd.R_newB (Kd.R_newB (Kd.R_newB ho0 (g := gb216) (o := .cells #[.int .i32 t208, .int .i32 t209, .int .i32 t210, .int .u8 t211, .int .u8 t212, .int .u8 t213, .int .u8 t214] 26 (0, 0)) (by (with_reducible repeat (first | apply bN | apply bD | apply bA)); exact BK216.out)) (g := gb225) (o := .cells #[.int .i32 t217, .int .i32 t218, .int .i32 t219, .int .u8 t220, .int .u8 t221, .int .u8 t222, .int .u8 t223] 26 (0, 0)) (by (with_reducible repeat (first | apply bN | apply bD | apply bA)); exact BK225.out)) (g := gb233) (o := .cells #[.int .i32 t226, .int .i32 t227, .int .i32 t228, .int .u8 t229, .int .u8 t230, .int .u8 t231, .int .u8 t232] 26 (0, 0)) (by (with_reducible repeat (first | apply bN | apply bD | apply bA)); exact BK233.out)) (below_size (by repeat (first | (with_reducible first | exact HB.out | apply lA | apply lN | apply lD | refine below_set ?_ GE216.out | refine below_set ?_ GE225.out | refine below_set ?_ GE233.out) | exact HB.out))))
          have n1_ := aS (blk_below (g := gb216) (o := .cells #[.int .i32 t208, .int .i32 t209, .int .i32 t210, .int .u8 t211, .int .u8 t212, .int .u8 t213, .int .u8 t214] 26 (0, 0)) (by (with_reducible repeat (first | apply bN | apply bD | apply bA)); exact BK216.out) hb)
          have n2_ := aS (blk_below (g := gb225) (o := .cells #[.int .i32 t217, .int .i32 t218, .int .i32 t219, .int .u8 t220, .int .u8 t221, .int .u8 t222, .int .u8 t223] 26 (0, 0)) (by (with_reducible repeat (first | apply bN | apply bD | apply bA)); exact BK225.out) hb)
          have n3_ := aS (blk_below (g := gb233) (o := .cells #[.int .i32 t226, .int .i32 t227, .int .i32 t228, .int .u8 t229, .int .u8 t230, .int .u8 t231, .int .u8 t232] 26 (0, 0)) (by (with_reducible repeat (first | apply bN | apply bD | apply bA)); exact BK233.out) hb)
          have n4_ := aS (below_step (by repeat (first | (with_reducible first | exact HB.out | apply lA | apply lN | apply lD | refine below_set ?_ GE216.out | refine below_set ?_ GE225.out | refine below_set ?_ GE233.out) | exact HB.out)) hb)
          clear BK216
          clear BK225
          clear BK233
          clear HB
          have HO236 := n0_
          have BK216 := n1_
          have BK225 := n2_
          have BK233 := n3_
          have HB := n4_
          clear n0_ n1_ n2_ n3_ n4_
          (try clear hb)
          (try clear hb2)
          (try clear hk)
          (try clear hi)
          (try clear ho0)
          obtain ⟨Ao29, co29, eo29⟩ := Kd.R_slice HO236.out
          (first | subst eo29 | (injection eo29 with f1_ f2_ f3_; have f4_ := f1_.symm; have f5_ := f3_.symm; clear f1_ f2_ f3_; subst f4_; subst f5_))
          refine hK.out _ _ ⟨(blk_cell BK216.out 0).trans rfl, (blk_cell BK216.out 1).trans rfl, (blk_cell BK216.out 2).trans rfl, (blk_cell BK216.out 3).trans rfl, (blk_cell BK216.out 4).trans rfl, (blk_cell BK216.out 5).trans rfl, (blk_cell BK216.out 6).trans rfl⟩ (fun hHeld => ?_)
          clear hK K
          refine norm_ (a' := ?_) ?_ ?_
          rotate_left
          · show Act.put _ (some 23) _ = _
            simp only [Act.put, List.setIfInBounds_toArray, List.set_cons_zero, List.set_cons_succ, i64_w, i32_w]
            rfl
          refine one_ (i := 2) (N := some 25) (tf 3 5) rfl rfl (one_of HT_.out (by kernel_rfl)) (by decide) (fun K hK => ?_)
          refine goes_ Try.func37 (by kernel_rfl) rfl #[.slice Ao29 t234.length co29, .int .i64 1, .agg #[.int .i32 t208, .int .i32 t209, .int .i32 t210, .int .u8 t211, .int .u8 t212, .int .u8 t213, .int .u8 t214]] (by rfl) rfl rfl (by (try simp only [List.map_toArray, List.map_cons, List.map_nil]); first | done | rfl | (simp only [List.length_drop, List.length_take]; rfl)) ?_
          with_reducible refine (line_Put.calls k _ _ t234 1 t208 t209 t210 t211 t212 t213 t214 t237 true _ ?side1 ?side2 A5.out).mono ?_
          (case side1 => repeat (first | exact (Kd.R_reads' HO236.out).2.2 | (with_reducible refine Kd.C_alloc ?_ _) | (with_reducible refine Kd.C_drewN ?_ _) | (with_reducible refine Kd.C_drew ?_)))
          (case side2 => exact (Kd.R_reads' HO236.out).2.1)
          rintro e w30 ⟨v238, rfl, ho0, hb⟩
          refine ⟨_, rfl, ?_⟩
          have n0_ := aS (Kd.R_elder' (by (with_reducible repeat (first | apply rA | apply rN | apply rD)); exact HO236.out) (Kd.R_base ho0) hb)
          have n1_ := aS (Kd.R_lower (Kd.R_newB (Kd.R_newB (Kd.R_newB (Kd.R_new' ho0 (Kd.R_lt (by (with_reducible repeat (first | apply rA | apply rN | apply rD)); exact HO236.out))) (g := gb216) (o := .cells #[.int .i32 t208, .int .i32 t209, .int .i32 t210, .int .u8 t211, .int .u8 t212, .int .u8 t213, .int .u8 t214] 26 (0, 0)) (by (with_reducible repeat (first | apply bN | apply bD | apply bA)); exact BK216.out)) (g := gb225) (o := .cells #[.int .i32 t217, .int .i32 t218, .int .i32 t219, .int .u8 t220, .int .u8 t221, .int .u8 t222, .int .u8 t223] 26 (0, 0)) (by (with_reducible repeat (first | apply bN | apply bD | apply bA)); exact BK225.out)) (g := gb233) (o := .cells #[.int .i32 t226, .int .i32 t227, .int .i32 t228, .int .u8 t229, .int .u8 t230, .int .u8 t231, .int .u8 t232] 26 (0, 0)) (by (with_reducible repeat (first | apply bN | apply bD | apply bA)); exact BK233.out)) (below_size (by repeat (first | (with_reducible first | exact HB.out | apply lA | apply lN | apply lD | refine below_set ?_ GE216.out | refine below_set ?_ GE225.out | refine below_set ?_ GE233.out) | exact HB.out))))
          have n2_ := aS (blk_below (g := gb216) (o := .cells #[.int .i32 t208, .int .i32 t209, .int .i32 t210, .int .u8 t211, .int .u8 t212, .int .u8 t213, .int .u8 t214] 26 (0, 0)) (by (with_reducible repeat (first | apply bN | apply bD | apply bA)); exact BK216.out) hb)
          have n3_ := aS (blk_below (g := gb225) (o := .cells #[.int .i32 t217, .int .i32 t218, .int .i32 t219, .int .u8 t220, .int .u8 t221, .int .u8 t222, .int .u8 t223] 26 (0, 0)) (by (with_reducible repeat (first | apply bN | apply bD | apply bA)); exact BK225.out) hb)
          have n4_ := aS (blk_below (g := gb233) (o := .cells #[.int .i32 t226, .int .i32 t227, .int .i32 t228, .int .u8 t229, .int .u8 t230, .int .u8 t231, .int .u8 t232] 26 (0, 0)) (by (with_reducible repeat (first | apply bN | apply bD | apply bA)); exact BK233.out) hb)
          have n5_ := aS (below_step (by repeat (first | (with_reducible first | exact HB.out | apply lA | apply lN | apply lD | refine below_set ?_ GE216.out | refine below_set ?_ GE225.out | refine below_set ?_ GE233.out) | exact HB.out)) hb)
          clear HO236
          clear BK216
          clear BK225
          clear BK233
          clear HB
          have HO236 := n0_
          have HO239 := n1_
          have BK216 := n2_
          have BK225 := n3_
          have BK233 := n4_
          have HB := n5_
          clear n0_ n1_ n2_ n3_ n4_ n5_
          (try clear hb)
          (try clear hb2)
          (try clear hk)
          (try clear hi)
          (try clear ho0)
          refine hK.out _ _ ⟨(blk_cell BK216.out 0).trans rfl, (blk_cell BK216.out 1).trans rfl, (blk_cell BK216.out 2).trans rfl, (blk_cell BK216.out 3).trans rfl, (blk_cell BK216.out 4).trans rfl, (blk_cell BK216.out 5).trans rfl, (blk_cell BK216.out 6).trans rfl⟩ (fun hHeld => ?_)
          clear hK K
          refine norm_ (a' := ?_) ?_ ?_
          rotate_left
          · show Act.put _ (some 25) _ = _
            simp only [Act.put, List.setIfInBounds_toArray, List.set_cons_zero, List.set_cons_succ, i64_w, i32_w]
            rfl
          refine pure_ (i := 3) (N := some 22) (v := ?_) (a' := ?_) (tf 4 4) rfl rfl (any_of HT_.out (by kernel_rfl)) (fun _ _ _ h => h) (Or.inl ⟨by rfl, ?_⟩) ?_ ?_
          rotate_left
          · intro w'
            go_simp
            with_reducible rfl
          rotate_left
          · simp only [Act.put, List.setIfInBounds_toArray, List.set_cons_zero, List.set_cons_succ, i64_w, i32_w]
            rfl
          refine pure_ (i := 4) (N := some 26) (v := ?_) (a' := ?_) (tf 5 3) rfl rfl (any_of HT_.out (by kernel_rfl)) (fun _ _ _ h => h) (Or.inl ⟨by rfl, ?_⟩) ?_ ?_
          rotate_left
          · intro w'
            go_simp
            with_reducible rfl
          rotate_left
          · simp only [Act.put, List.setIfInBounds_toArray, List.set_cons_zero, List.set_cons_succ, i64_w, i32_w]
            rfl
          refine pure_ (i := 5) (N := some 27) (v := ?_) (a' := ?_) (tf 6 2) rfl rfl (any_of HT_.out (by kernel_rfl)) (fun _ _ _ h => h) (Or.inl ⟨by rfl, ?_⟩) ?_ ?_
          rotate_left
          · intro w'
            go_simp
            with_reducible rfl
          rotate_left
          · simp only [Act.put, List.setIfInBounds_toArray, List.set_cons_zero, List.set_cons_succ, i64_w, i32_w]
            rfl
          refine pure_ (i := 6) (N := some 6) (v := ?_) (a' := ?_) (tf 7 1) rfl rfl (any_of HT_.out (by kernel_rfl)) (fun _ _ _ h => h) (Or.inl ⟨by rfl, ?_⟩) ?_ ?_
          rotate_left
          · intro w'
            go_simp
            with_reducible rfl
          rotate_left
          · simp only [Act.put, List.setIfInBounds_toArray, List.set_cons_zero, List.set_cons_succ, i64_w, i32_w]
            rfl
          refine pure_ (i := 7) (N := some 7) (v := ?_) (a' := ?_) (tf 8 0) rfl rfl (any_of HT_.out (by kernel_rfl)) (fun _ _ _ h => h) (Or.inl ⟨by rfl, ?_⟩) ?_ ?_
          rotate_left
          · intro w'
            go_simp
            with_reducible rfl
          rotate_left
          · simp only [Act.put, List.setIfInBounds_toArray, List.set_cons_zero, List.set_cons_succ, i64_w, i32_w]
            rfl
          refine done_ (done_of HT_.out (by kernel_rfl)) ?_
          obtain ⟨hcz31_0, hcz31_1, hcz31_2, hcz31_3, hcz31_4, hcz31_5, hcz31_6, hfz31_0, hfz31_1, hfz31_2, hfz31_3, hfz31_4, hfz31_5, hfz31_6⟩ := cel7 BK225.out
          obtain ⟨Ao32, co32, eo32⟩ := Kd.R_slice HO239.out
          subst eo32
          try go_wp2_with (first | ((with_reducible refine gate_callee (f := 37) rfl ?_); refine goesL_ (some 31) rfl rfl Try.func37 (by kernel_rfl) rfl #[.slice Ao32 t237.length co32, .int .i64 2, .agg #[.int .i32 t217, .int .i32 t218, .int .i32 t219, .int .u8 t220, .int .u8 t221, .int .u8 t222, .int .u8 t223]] rfl (by (try simp only [List.map_toArray, List.map_cons, List.map_nil]); first | done | rfl | (simp only [List.length_drop, List.length_take]; rfl)) ?_; (with_reducible refine (line_Put.calls k _ _ t237 2 t217 t218 t219 t220 t221 t222 t223 t241 true _ ?side1 ?side2 A6.out).mono ?_); (case side1 => repeat (first | exact (Kd.R_reads' HO239.out).2.2 | (with_reducible refine Kd.C_alloc ?_ _) | (with_reducible refine Kd.C_drewN ?_ _) | (with_reducible refine Kd.C_drew ?_))); (case side2 => exact (Kd.R_reads' HO239.out).2.1); rintro e w33 ⟨v242, rfl, ho0, hb⟩; refine ⟨_, rfl, ?_⟩; have n0_ := aS (Kd.R_elder' (by (with_reducible repeat (first | apply rA | apply rN | apply rD)); exact HO236.out) (Kd.R_base ho0) hb); have n1_ := aS (Kd.R_elder' (by (with_reducible repeat (first | apply rA | apply rN | apply rD)); exact HO239.out) (Kd.R_base ho0) hb); have n2_ := aS (Kd.R_lower (Kd.R_newB (Kd.R_newB (Kd.R_newB (Kd.R_new' (Kd.R_new' ho0 (Kd.R_lt (by (with_reducible repeat (first | apply rA | apply rN | apply rD)); exact HO236.out))) (Kd.R_lt (by (with_reducible repeat (first | apply rA | apply rN | apply rD)); exact HO239.out))) (g := gb216) (o := .cells #[.int .i32 t208, .int .i32 t209, .int .i32 t210, .int .u8 t211, .int .u8 t212, .int .u8 t213, .int .u8 t214] 26 (0, 0)) (by (with_reducible repeat (first | apply bN | apply bD | apply bA)); exact BK216.out)) (g := gb225) (o := .cells #[.int .i32 t217, .int .i32 t218, .int .i32 t219, .int .u8 t220, .int .u8 t221, .int .u8 t222, .int .u8 t223] 26 (0, 0)) (by (with_reducible repeat (first | apply bN | apply bD | apply bA)); exact BK225.out)) (g := gb233) (o := .cells #[.int .i32 t226, .int .i32 t227, .int .i32 t228, .int .u8 t229, .int .u8 t230, .int .u8 t231, .int .u8 t232] 26 (0, 0)) (by (with_reducible repeat (first | apply bN | apply bD | apply bA)); exact BK233.out)) (below_size (by repeat (first | (with_reducible first | exact HB.out | apply lA | apply lN | apply lD | refine below_set ?_ GE216.out | refine below_set ?_ GE225.out | refine below_set ?_ GE233.out) | exact HB.out)))); have n3_ := aS (blk_below (g := gb216) (o := .cells #[.int .i32 t208, .int .i32 t209, .int .i32 t210, .int .u8 t211, .int .u8 t212, .int .u8 t213, .int .u8 t214] 26 (0, 0)) (by (with_reducible repeat (first | apply bN | apply bD | apply bA)); exact BK216.out) hb); have n4_ := aS (blk_below (g := gb225) (o := .cells #[.int .i32 t217, .int .i32 t218, .int .i32 t219, .int .u8 t220, .int .u8 t221, .int .u8 t222, .int .u8 t223] 26 (0, 0)) (by (with_reducible repeat (first | apply bN | apply bD | apply bA)); exact BK225.out) hb); have n5_ := aS (blk_below (g := gb233) (o := .cells #[.int .i32 t226, .int .i32 t227, .int .i32 t228, .int .u8 t229, .int .u8 t230, .int .u8 t231, .int .u8 t232] 26 (0, 0)) (by (with_reducible repeat (first | apply bN | apply bD | apply bA)); exact BK233.out) hb); have n6_ := aS (below_step (by repeat (first | (with_reducible first | exact HB.out | apply lA | apply lN | apply lD | refine below_set ?_ GE216.out | refine below_set ?_ GE225.out | refine below_set ?_ GE233.out) | exact HB.out)) hb); clear HO236; clear HO239; clear BK216; clear BK225; clear BK233; clear HB; have HO236 := n0_; have HO239 := n1_; have HO243 := n2_; have BK216 := n3_; have BK225 := n4_; have BK233 := n5_; have HB := n6_; clear n0_ n1_ n2_ n3_ n4_ n5_ n6_; (try clear hb); (try clear hb2); (try clear hk); (try clear hi); (try clear ho0)))
          have n0_ := aS (Kd.R_drew HO236.out)
          have n1_ := aS (Kd.R_drew HO239.out)
          have n2_ := aS (Kd.R_drew HO243.out)
          have n3_ := aS (blk_drew BK216.out)
          have n4_ := aS (blk_drew BK225.out)
          have n5_ := aS (blk_drew BK233.out)
          have n6_ := aS (below_drew1 HB.out)
          clear HO236
          clear HO239
          clear HO243
          clear BK216
          clear BK225
          clear BK233
          clear HB
          have HO236 := n0_
          have HO239 := n1_
          have HO243 := n2_
          have BK216 := n3_
          have BK225 := n4_
          have BK233 := n5_
          have HB := n6_
          clear n0_ n1_ n2_ n3_ n4_ n5_ n6_
          refine start_ (n := 29) (S := fun w' => w'.cell? ⟨gb233, 0, none⟩ = some (.int .i32 t226) ∧ w'.cell? ⟨gb233, 1, none⟩ = some (.int .i32 t227) ∧ w'.cell? ⟨gb233, 2, none⟩ = some (.int .i32 t228) ∧ w'.cell? ⟨gb233, 3, none⟩ = some (.int .u8 t229) ∧ w'.cell? ⟨gb233, 4, none⟩ = some (.int .u8 t230) ∧ w'.cell? ⟨gb233, 5, none⟩ = some (.int .u8 t231) ∧ w'.cell? ⟨gb233, 6, none⟩ = some (.int .u8 t232) ∧ w'.cell? ⟨gb216, 0, none⟩ = some (.int .i32 t208) ∧ w'.cell? ⟨gb216, 1, none⟩ = some (.int .i32 t209) ∧ w'.cell? ⟨gb216, 2, none⟩ = some (.int .i32 t210) ∧ w'.cell? ⟨gb216, 3, none⟩ = some (.int .u8 t211) ∧ w'.cell? ⟨gb216, 4, none⟩ = some (.int .u8 t212) ∧ w'.cell? ⟨gb216, 5, none⟩ = some (.int .u8 t213) ∧ w'.cell? ⟨gb216, 6, none⟩ = some (.int .u8 t214) ∧ w'.cell? ⟨gb225, 0, none⟩ = some (.int .i32 t217) ∧ w'.cell? ⟨gb225, 1, none⟩ = some (.int .i32 t218) ∧ w'.cell? ⟨gb225, 2, none⟩ = some (.int .i32 t219) ∧ w'.cell? ⟨gb225, 3, none⟩ = some (.int .u8 t220) ∧ w'.cell? ⟨gb225, 4, none⟩ = some (.int .u8 t221) ∧ w'.cell? ⟨gb225, 5, none⟩ = some (.int .u8 t222) ∧ w'.cell? ⟨gb225, 6, none⟩ = some (.int .u8 t223)) (ds := []) (tf 0 29) (by kernel_rfl) rfl rfl ⟨(blk_cell BK233.out 0).trans rfl, (blk_cell BK233.out 1).trans rfl, (blk_cell BK233.out 2).trans rfl, (blk_cell BK233.out 3).trans rfl, (blk_cell BK233.out 4).trans rfl, (blk_cell BK233.out 5).trans rfl, (blk_cell BK233.out 6).trans rfl, (blk_cell BK216.out 0).trans rfl, (blk_cell BK216.out 1).trans rfl, (blk_cell BK216.out 2).trans rfl, (blk_cell BK216.out 3).trans rfl, (blk_cell BK216.out 4).trans rfl, (blk_cell BK216.out 5).trans rfl, (blk_cell BK216.out 6).trans rfl, (blk_cell BK225.out 0).trans rfl, (blk_cell BK225.out 1).trans rfl, (blk_cell BK225.out 2).trans rfl, (blk_cell BK225.out 3).trans rfl, (blk_cell BK225.out 4).trans rfl, (blk_cell BK225.out 5).trans rfl, (blk_cell BK225.out 6).trans rfl⟩ (fun hHeld => ?_); refine with_tabW prolepsislaw06_knownB.tab6 prolepsislaw06_knownB.bits6 (fun HT_ HW_ => ?_)
          generalize w33.drew = w34 at HO236 HO239 HO243 BK216 BK225 BK233 HB hHeld ⊢
          refine pure_ (i := 0) (N := some 34) (v := ?_) (a' := ?_) (tf 1 28) rfl rfl (any_of HT_.out (by kernel_rfl)) (fun _ _ _ h => h) (Or.inl ⟨by rfl, ?_⟩) ?_ ?_
          rotate_left
          · intro w'
            go_simp
            with_reducible rfl
          rotate_left
          · simp only [Act.put, List.setIfInBounds_toArray, List.set_cons_zero, List.set_cons_succ, i64_w, i32_w]
            rfl
          refine pure_ (i := 1) (N := some 35) (v := ?_) (a' := ?_) (tf 2 27) rfl rfl (any_of HT_.out (by kernel_rfl)) (fun _ _ _ h => h) (Or.inl ⟨by rfl, ?_⟩) ?_ ?_
          rotate_left
          · intro w'
            go_simp
            with_reducible rfl
          rotate_left
          · simp only [Act.put, List.setIfInBounds_toArray, List.set_cons_zero, List.set_cons_succ, i64_w, i32_w]
            rfl
          refine pure_ (i := 2) (N := some 36) (v := ?_) (a' := ?_) (tf 3 26) rfl rfl (any_of HT_.out (by kernel_rfl)) (fun _ _ _ h => h) (Or.inl ⟨by rfl, ?_⟩) ?_ ?_
          rotate_left
          · intro w'
            go_simp
            with_reducible rfl
          rotate_left
          · simp only [Act.put, List.setIfInBounds_toArray, List.set_cons_zero, List.set_cons_succ, i64_w, i32_w]
            rfl
          refine take_ (i := 3) (N := some 37) (v := ?_) (a' := ?_) (tf 4 25) rfl rfl (take_ofW HT_.out HW_.out (by kernel_rfl)) (fun _ _ _ h => h) (Or.inl ⟨by rfl, ?_⟩) hHeld ?_ ?_
          rotate_left
          · rintro w' ⟨s0, s1, s2, s3, s4, s5, s6, s7, s8, s9, s10, s11, s12, s13, s14, s15, s16, s17, s18, s19, s20⟩
            go_simp
            with_reducible rfl
          rotate_left
          · simp only [Act.put, List.setIfInBounds_toArray, List.set_cons_zero, List.set_cons_succ, i64_w, i32_w]
            rfl
          refine take_ (i := 4) (N := some 38) (v := ?_) (a' := ?_) (tf 5 24) rfl rfl (take_ofW HT_.out HW_.out (by kernel_rfl)) (fun _ _ _ h => h) (Or.inl ⟨by rfl, ?_⟩) hHeld ?_ ?_
          rotate_left
          · rintro w' ⟨s0, s1, s2, s3, s4, s5, s6, s7, s8, s9, s10, s11, s12, s13, s14, s15, s16, s17, s18, s19, s20⟩
            go_simp
            with_reducible rfl
          rotate_left
          · simp only [Act.put, List.setIfInBounds_toArray, List.set_cons_zero, List.set_cons_succ, i64_w, i32_w]
            rfl
          refine take_ (i := 5) (N := some 39) (v := ?_) (a' := ?_) (tf 6 23) rfl rfl (take_ofW HT_.out HW_.out (by kernel_rfl)) (fun _ _ _ h => h) (Or.inl ⟨by rfl, ?_⟩) hHeld ?_ ?_
          rotate_left
          · rintro w' ⟨s0, s1, s2, s3, s4, s5, s6, s7, s8, s9, s10, s11, s12, s13, s14, s15, s16, s17, s18, s19, s20⟩
            go_simp
            with_reducible rfl
          rotate_left
          · simp only [Act.put, List.setIfInBounds_toArray, List.set_cons_zero, List.set_cons_succ, i64_w, i32_w]
            rfl
          refine take_ (i := 7) (N := some 41) (v := ?_) (a' := ?_) #[true, true, true, true, true, true, false, true, false, false, false, false, false, false, false, false, false, false, false, false, false, false, false, false, false, false, false, false, false] rfl rfl (take_ofW HT_.out HW_.out (by kernel_rfl)) (fun _ _ _ h => h) (Or.inl ⟨by rfl, ?_⟩) hHeld ?_ ?_
          rotate_left
          · rintro w' ⟨s0, s1, s2, s3, s4, s5, s6, s7, s8, s9, s10, s11, s12, s13, s14, s15, s16, s17, s18, s19, s20⟩
            go_simp
            with_reducible rfl
          rotate_left
          · simp only [Act.put, List.setIfInBounds_toArray, List.set_cons_zero, List.set_cons_succ, i64_w, i32_w]
            rfl
          refine one_ (i := 6) (N := some 40) (tf 8 21) rfl rfl (one_of HT_.out (by kernel_rfl)) (by decide) (fun K hK => ?_)
          refine goes_ Try.func23 (by kernel_rfl) rfl #[.agg #[.int .i32 t208, .int .i32 t209, .int .i32 t210, .int .u8 t211, .int .u8 t212, .int .u8 t213, .int .u8 t214]] (by rfl) rfl rfl (by (try simp only [List.map_toArray, List.map_cons, List.map_nil]); first | done | rfl | (simp only [List.length_drop, List.length_take]; rfl)) ?_
          with_reducible refine (cell_Rest.calls t208 t209 t210 t211 t212 t213 t214 t245 t246 t247 t248 t249 t250 t251 _ A8.out).mono ?_
          rintro e w35 ⟨rfl, hb⟩
          refine ⟨_, rfl, ?_⟩
          have n0_ := aS (Kd.R_below (by (with_reducible repeat (first | apply rA | apply rN | apply rD)); exact HO236.out) hb)
          have n1_ := aS (Kd.R_below (by (with_reducible repeat (first | apply rA | apply rN | apply rD)); exact HO239.out) hb)
          have n2_ := aS (Kd.R_below (by (with_reducible repeat (first | apply rA | apply rN | apply rD)); exact HO243.out) hb)
          have n3_ := aS (blk_below (g := gb216) (o := .cells #[.int .i32 t208, .int .i32 t209, .int .i32 t210, .int .u8 t211, .int .u8 t212, .int .u8 t213, .int .u8 t214] 26 (0, 0)) (by (with_reducible repeat (first | apply bN | apply bD | apply bA)); exact BK216.out) hb)
          have n4_ := aS (blk_below (g := gb225) (o := .cells #[.int .i32 t217, .int .i32 t218, .int .i32 t219, .int .u8 t220, .int .u8 t221, .int .u8 t222, .int .u8 t223] 26 (0, 0)) (by (with_reducible repeat (first | apply bN | apply bD | apply bA)); exact BK225.out) hb)
          have n5_ := aS (blk_below (g := gb233) (o := .cells #[.int .i32 t226, .int .i32 t227, .int .i32 t228, .int .u8 t229, .int .u8 t230, .int .u8 t231, .int .u8 t232] 26 (0, 0)) (by (with_reducible repeat (first | apply bN | apply bD | apply bA)); exact BK233.out) hb)
          have n6_ := aS (below_step (by repeat (first | (with_reducible first | exact HB.out | apply lA | apply lN | apply lD | refine below_set ?_ GE216.out | refine below_set ?_ GE225.out | refine below_set ?_ GE233.out) | exact HB.out)) hb)
          clear HO236
          clear HO239
          clear HO243
          clear BK216
          clear BK225
          clear BK233
          clear HB
          have HO236 := n0_
          have HO239 := n1_
          have HO243 := n2_
          have BK216 := n3_
          have BK225 := n4_
          have BK233 := n5_
          have HB := n6_
          clear n0_ n1_ n2_ n3_ n4_ n5_ n6_
          (try clear hb)
          (try clear hb2)
          (try clear hk)
          (try clear hi)
          refine hK.out _ _ ⟨(blk_cell BK233.out 0).trans rfl, (blk_cell BK233.out 1).trans rfl, (blk_cell BK233.out 2).trans rfl, (blk_cell BK233.out 3).trans rfl, (blk_cell BK233.out 4).trans rfl, (blk_cell BK233.out 5).trans rfl, (blk_cell BK233.out 6).trans rfl, (blk_cell BK216.out 0).trans rfl, (blk_cell BK216.out 1).trans rfl, (blk_cell BK216.out 2).trans rfl, (blk_cell BK216.out 3).trans rfl, (blk_cell BK216.out 4).trans rfl, (blk_cell BK216.out 5).trans rfl, (blk_cell BK216.out 6).trans rfl, (blk_cell BK225.out 0).trans rfl, (blk_cell BK225.out 1).trans rfl, (blk_cell BK225.out 2).trans rfl, (blk_cell BK225.out 3).trans rfl, (blk_cell BK225.out 4).trans rfl, (blk_cell BK225.out 5).trans rfl, (blk_cell BK225.out 6).trans rfl⟩ (fun hHeld => ?_)
          clear hK K
          refine norm_ (a' := ?_) ?_ ?_
          rotate_left
          · show Act.put _ (some 40) _ = _
            simp only [Act.put, List.setIfInBounds_toArray, List.set_cons_zero, List.set_cons_succ, i64_w, i32_w]
            rfl
          refine one_ (i := 8) (N := some 42) (tf 9 20) rfl rfl (one_of HT_.out (by kernel_rfl)) (by decide) (fun K hK => ?_)
          refine Kd.R_lit_step k26 _ 26 ?hg (N := 42) ?hd (xs := ([(⟨t226, (⟨t227, t228⟩ : S22), t229, (⟨t230, t231, t232⟩ : S24)⟩ : S26), (⟨t208, (⟨t209, t210⟩ : S22), t211, (⟨t212, t213, t214⟩ : S24)⟩ : S26), (⟨t245, (⟨t246, t247⟩ : S22), t248, (⟨t249, t250, t251⟩ : S24)⟩ : S26), (⟨t226, (⟨t227, t228⟩ : S22), t229, (⟨t230, t231, t232⟩ : S24)⟩ : S26)] : List (S26))) (inner := [.int .i32 t226, .int .i32 t227, .int .i32 t228, .int .u8 t229, .int .u8 t230, .int .u8 t231, .int .u8 t232, .int .i32 t208, .int .i32 t209, .int .i32 t210, .int .u8 t211, .int .u8 t212, .int .u8 t213, .int .u8 t214, .int .i32 t245, .int .i32 t246, .int .i32 t247, .int .u8 t248, .int .u8 t249, .int .u8 t250, .int .u8 t251, .int .i32 t226, .int .i32 t227, .int .i32 t228, .int .u8 t229, .int .u8 t230, .int .u8 t231, .int .u8 t232]) (ok := fun _ => True) (okp := fun _ => True) ?hr ?hp (fun _ hk => hk) trivial (Below.refl _ _) (Nat.le_refl _) (by simp) ?_; (case hd => rfl); (case hg => rfl); (case hr => first | (go_simp; done) | (go_simp; rfl)); (case hp => exact (Reps.c7 (show Kd.M k26 _ _ _ (⟨t226, (⟨t227, t228⟩ : S22), t229, (⟨t230, t231, t232⟩ : S24)⟩ : S26) [.int .i32 t226, .int .i32 t227, .int .i32 t228, .int .u8 t229, .int .u8 t230, .int .u8 t231, .int .u8 t232] from (k26_mkM _ _ _ (⟨t226, (⟨t227, t228⟩ : S22), t229, (⟨t230, t231, t232⟩ : S24)⟩ : S26) )) (Reps.c7 (show Kd.M k26 _ _ _ (⟨t208, (⟨t209, t210⟩ : S22), t211, (⟨t212, t213, t214⟩ : S24)⟩ : S26) [.int .i32 t208, .int .i32 t209, .int .i32 t210, .int .u8 t211, .int .u8 t212, .int .u8 t213, .int .u8 t214] from (k26_mkM _ _ _ (⟨t208, (⟨t209, t210⟩ : S22), t211, (⟨t212, t213, t214⟩ : S24)⟩ : S26) )) (Reps.c7 (show Kd.M k26 _ _ _ (⟨t245, (⟨t246, t247⟩ : S22), t248, (⟨t249, t250, t251⟩ : S24)⟩ : S26) [.int .i32 t245, .int .i32 t246, .int .i32 t247, .int .u8 t248, .int .u8 t249, .int .u8 t250, .int .u8 t251] from (k26_mkM _ _ _ (⟨t245, (⟨t246, t247⟩ : S22), t248, (⟨t249, t250, t251⟩ : S24)⟩ : S26) )) (Reps.c7 (show Kd.M k26 _ _ _ (⟨t226, (⟨t227, t228⟩ : S22), t229, (⟨t230, t231, t232⟩ : S24)⟩ : S26) [.int .i32 t226, .int .i32 t227, .int .i32 t228, .int .u8 t229, .int .u8 t230, .int .u8 t231, .int .u8 t232] from (k26_mkM _ _ _ (⟨t226, (⟨t227, t228⟩ : S22), t229, (⟨t230, t231, t232⟩ : S24)⟩ : S26) )) (Reps.none _ _))))))
          intro v253 w36 ho37 hb hg_ hnew_
          clear hg_ hnew_
          (first | rw [← Ny252.out] at ho37 | (simp only [Int.reduceToNat] at ho37; rw [← Ny252.out] at ho37))
          have n0_ := aS (Kd.R_elder' (by (with_reducible repeat (first | apply rA | apply rN | apply rD)); exact HO236.out) (Kd.R_base ho37) hb)
          have n1_ := aS (Kd.R_elder' (by (with_reducible repeat (first | apply rA | apply rN | apply rD)); exact HO239.out) (Kd.R_base ho37) hb)
          have n2_ := aS (Kd.R_elder' (by (with_reducible repeat (first | apply rA | apply rN | apply rD)); exact HO243.out) (Kd.R_base ho37) hb)
          have n3_ := aS (Kd.R_lower (Kd.R_newB (Kd.R_newB (Kd.R_newB (Kd.R_new' (Kd.R_new' (Kd.R_new' ho37 (Kd.R_lt (by (with_reducible repeat (first | apply rA | apply rN | apply rD)); exact HO236.out))) (Kd.R_lt (by (with_reducible repeat (first | apply rA | apply rN | apply rD)); exact HO239.out))) (Kd.R_lt (by (with_reducible repeat (first | apply rA | apply rN | apply rD)); exact HO243.out))) (g := gb216) (o := .cells #[.int .i32 t208, .int .i32 t209, .int .i32 t210, .int .u8 t211, .int .u8 t212, .int .u8 t213, .int .u8 t214] 26 (0, 0)) (by (with_reducible repeat (first | apply bN | apply bD | apply bA)); exact BK216.out)) (g := gb225) (o := .cells #[.int .i32 t217, .int .i32 t218, .int .i32 t219, .int .u8 t220, .int .u8 t221, .int .u8 t222, .int .u8 t223] 26 (0, 0)) (by (with_reducible repeat (first | apply bN | apply bD | apply bA)); exact BK225.out)) (g := gb233) (o := .cells #[.int .i32 t226, .int .i32 t227, .int .i32 t228, .int .u8 t229, .int .u8 t230, .int .u8 t231, .int .u8 t232] 26 (0, 0)) (by (with_reducible repeat (first | apply bN | apply bD | apply bA)); exact BK233.out)) (below_size (by repeat (first | (with_reducible first | exact HB.out | apply lA | apply lN | apply lD | refine below_set ?_ GE216.out | refine below_set ?_ GE225.out | refine below_set ?_ GE233.out) | exact HB.out))))
          have n4_ := aS (blk_below (g := gb216) (o := .cells #[.int .i32 t208, .int .i32 t209, .int .i32 t210, .int .u8 t211, .int .u8 t212, .int .u8 t213, .int .u8 t214] 26 (0, 0)) (by (with_reducible repeat (first | apply bN | apply bD | apply bA)); exact BK216.out) hb)
          have n5_ := aS (blk_below (g := gb225) (o := .cells #[.int .i32 t217, .int .i32 t218, .int .i32 t219, .int .u8 t220, .int .u8 t221, .int .u8 t222, .int .u8 t223] 26 (0, 0)) (by (with_reducible repeat (first | apply bN | apply bD | apply bA)); exact BK225.out) hb)
          have n6_ := aS (blk_below (g := gb233) (o := .cells #[.int .i32 t226, .int .i32 t227, .int .i32 t228, .int .u8 t229, .int .u8 t230, .int .u8 t231, .int .u8 t232] 26 (0, 0)) (by (with_reducible repeat (first | apply bN | apply bD | apply bA)); exact BK233.out) hb)
          have n7_ := aS (below_step (by repeat (first | (with_reducible first | exact HB.out | apply lA | apply lN | apply lD | refine below_set ?_ GE216.out | refine below_set ?_ GE225.out | refine below_set ?_ GE233.out) | exact HB.out)) hb)
          clear HO236
          clear HO239
          clear HO243
          clear BK216
          clear BK225
          clear BK233
          clear HB
          have HO236 := n0_
          have HO239 := n1_
          have HO243 := n2_
          have HO254 := n3_
          have BK216 := n4_
          have BK225 := n5_
          have BK233 := n6_
          have HB := n7_
          clear n0_ n1_ n2_ n3_ n4_ n5_ n6_ n7_
          clear hb ho37
          obtain ⟨Ao38, co38, eo38⟩ := Kd.R_slice HO254.out
          (first | subst eo38 | (injection eo38 with f1_ f2_ f3_; have f4_ := f1_.symm; have f5_ := f3_.symm; clear f1_ f2_ f3_; subst f4_; subst f5_))
          refine hK.out _ _ ⟨(blk_cell BK233.out 0).trans rfl, (blk_cell BK233.out 1).trans rfl, (blk_cell BK233.out 2).trans rfl, (blk_cell BK233.out 3).trans rfl, (blk_cell BK233.out 4).trans rfl, (blk_cell BK233.out 5).trans rfl, (blk_cell BK233.out 6).trans rfl, (blk_cell BK216.out 0).trans rfl, (blk_cell BK216.out 1).trans rfl, (blk_cell BK216.out 2).trans rfl, (blk_cell BK216.out 3).trans rfl, (blk_cell BK216.out 4).trans rfl, (blk_cell BK216.out 5).trans rfl, (blk_cell BK216.out 6).trans rfl, (blk_cell BK225.out 0).trans rfl, (blk_cell BK225.out 1).trans rfl, (blk_cell BK225.out 2).trans rfl, (blk_cell BK225.out 3).trans rfl, (blk_cell BK225.out 4).trans rfl, (blk_cell BK225.out 5).trans rfl, (blk_cell BK225.out 6).trans rfl⟩ (fun hHeld => ?_)
          clear hK K
          refine norm_ (a' := ?_) ?_ ?_
          rotate_left
          · show Act.put _ (some 42) _ = _
            simp only [Act.put, List.setIfInBounds_toArray, List.set_cons_zero, List.set_cons_succ, i64_w, i32_w]
            rfl
          refine one_ (i := 9) (N := some 43) (tf 10 19) rfl rfl (one_of HT_.out (by kernel_rfl)) (by decide) (fun K hK => ?_)
          refine goes_ Try.func38 (by kernel_rfl) rfl #[.slice Ao32 t237.length co32, .slice Ao38 y252.length co38] (by rfl) rfl rfl (by (try simp only [List.map_toArray, List.map_cons, List.map_nil]); first | done | rfl | (simp only [List.length_drop, List.length_take]; rfl)) ?_
          with_reducible refine (line_Same.calls k _ _ t237 _ _ y252 true _ ?side1 ?side2 ?side3 ?side4 A9.out).mono ?_
          (case side1 => repeat (first | exact (Kd.R_reads' HO239.out).2.2 | (with_reducible refine Kd.C_alloc ?_ _) | (with_reducible refine Kd.C_drewN ?_ _) | (with_reducible refine Kd.C_drew ?_)))
          (case side2 => exact (Kd.R_reads' HO239.out).2.1)
          (case side3 => repeat (first | exact (Kd.R_reads' HO254.out).2.2 | (with_reducible refine Kd.C_alloc ?_ _) | (with_reducible refine Kd.C_drewN ?_ _) | (with_reducible refine Kd.C_drew ?_)))
          (case side4 => exact (Kd.R_reads' HO254.out).2.1)
          rintro e w' ⟨rfl, ⟨nd, rfl⟩⟩
          refine ⟨_, rfl, ?_⟩
          refine hK.out _ _ ⟨(blk_cell BK233.out 0).trans rfl, (blk_cell BK233.out 1).trans rfl, (blk_cell BK233.out 2).trans rfl, (blk_cell BK233.out 3).trans rfl, (blk_cell BK233.out 4).trans rfl, (blk_cell BK233.out 5).trans rfl, (blk_cell BK233.out 6).trans rfl, (blk_cell BK216.out 0).trans rfl, (blk_cell BK216.out 1).trans rfl, (blk_cell BK216.out 2).trans rfl, (blk_cell BK216.out 3).trans rfl, (blk_cell BK216.out 4).trans rfl, (blk_cell BK216.out 5).trans rfl, (blk_cell BK216.out 6).trans rfl, (blk_cell BK225.out 0).trans rfl, (blk_cell BK225.out 1).trans rfl, (blk_cell BK225.out 2).trans rfl, (blk_cell BK225.out 3).trans rfl, (blk_cell BK225.out 4).trans rfl, (blk_cell BK225.out 5).trans rfl, (blk_cell BK225.out 6).trans rfl⟩ (fun hHeld => ?_)
          clear hK K
          refine norm_ (a' := ?_) ?_ ?_
          rotate_left
          · show Act.put _ (some 43) _ = _
            simp only [Act.put, List.setIfInBounds_toArray, List.set_cons_zero, List.set_cons_succ, i64_w, i32_w]
            rfl
          refine pure_ (i := 10) (N := some 44) (v := ?_) (a' := ?_) (tf 11 18) rfl rfl (any_of HT_.out (by kernel_rfl)) (fun _ _ _ h => h) (Or.inl ⟨by rfl, ?_⟩) ?_ ?_
          rotate_left
          · intro w'
            go_simp
            with_reducible rfl
          rotate_left
          · simp only [Act.put, List.setIfInBounds_toArray, List.set_cons_zero, List.set_cons_succ, i64_w, i32_w]
            rfl
          refine pure_ (i := 11) (N := some 45) (v := ?_) (a' := ?_) (tf 12 17) rfl rfl (any_of HT_.out (by kernel_rfl)) (fun _ _ _ h => h) (Or.inl ⟨by rfl, ?_⟩) ?_ ?_
          rotate_left
          · intro w'
            go_simp
            with_reducible rfl
          rotate_left
          · simp only [Act.put, List.setIfInBounds_toArray, List.set_cons_zero, List.set_cons_succ, i64_w, i32_w]
            rfl
          refine pure_ (i := 12) (N := some 46) (v := ?_) (a' := ?_) (tf 13 16) rfl rfl (any_of HT_.out (by kernel_rfl)) (fun _ _ _ h => h) (Or.inl ⟨by rfl, ?_⟩) ?_ ?_
          rotate_left
          · intro w'
            go_simp
            with_reducible rfl
          rotate_left
          · simp only [Act.put, List.setIfInBounds_toArray, List.set_cons_zero, List.set_cons_succ, i64_w, i32_w]
            rfl
          refine pure_ (i := 13) (N := some 47) (v := ?_) (a' := ?_) (tf 14 15) rfl rfl (any_of HT_.out (by kernel_rfl)) (fun _ _ _ h => h) (Or.inl ⟨by rfl, ?_⟩) ?_ ?_
          rotate_left
          · intro w'
            go_simp
            with_reducible rfl
          rotate_left
          · simp only [Act.put, List.setIfInBounds_toArray, List.set_cons_zero, List.set_cons_succ, i64_w, i32_w]
            rfl
          refine pure_ (i := 14) (N := some 48) (v := ?_) (a' := ?_) (tf 15 14) rfl rfl (any_of HT_.out (by kernel_rfl)) (fun _ _ _ h => h) (Or.inl ⟨by rfl, ?_⟩) ?_ ?_
          rotate_left
          · intro w'
            go_simp
            with_reducible rfl
          rotate_left
          · simp only [Act.put, List.setIfInBounds_toArray, List.set_cons_zero, List.set_cons_succ, i64_w, i32_w]
            rfl
          refine pure_ (i := 15) (N := some 49) (v := ?_) (a' := ?_) (tf 16 13) rfl rfl (any_of HT_.out (by kernel_rfl)) (fun _ _ _ h => h) (Or.inl ⟨by rfl, ?_⟩) ?_ ?_
          rotate_left
          · intro w'
            go_simp
            with_reducible rfl
          rotate_left
          · simp only [Act.put, List.setIfInBounds_toArray, List.set_cons_zero, List.set_cons_succ, i64_w, i32_w]
            rfl
          refine take_ (i := 16) (N := some 50) (v := ?_) (a' := ?_) (tf 17 12) rfl rfl (take_ofW HT_.out HW_.out (by kernel_rfl)) (fun _ _ _ h => h) (Or.inl ⟨by rfl, ?_⟩) hHeld ?_ ?_
          rotate_left
          · rintro w' ⟨s0, s1, s2, s3, s4, s5, s6, s7, s8, s9, s10, s11, s12, s13, s14, s15, s16, s17, s18, s19, s20⟩
            go_simp
            with_reducible rfl
          rotate_left
          · simp only [Act.put, List.setIfInBounds_toArray, List.set_cons_zero, List.set_cons_succ, i64_w, i32_w]
            rfl
          refine take_ (i := 17) (N := some 51) (v := ?_) (a' := ?_) (tf 18 11) rfl rfl (take_ofW HT_.out HW_.out (by kernel_rfl)) (fun _ _ _ h => h) (Or.inl ⟨by rfl, ?_⟩) hHeld ?_ ?_
          rotate_left
          · rintro w' ⟨s0, s1, s2, s3, s4, s5, s6, s7, s8, s9, s10, s11, s12, s13, s14, s15, s16, s17, s18, s19, s20⟩
            go_simp
            with_reducible rfl
          rotate_left
          · simp only [Act.put, List.setIfInBounds_toArray, List.set_cons_zero, List.set_cons_succ, i64_w, i32_w]
            rfl
          refine take_ (i := 18) (N := some 52) (v := ?_) (a' := ?_) (tf 19 10) rfl rfl (take_ofW HT_.out HW_.out (by kernel_rfl)) (fun _ _ _ h => h) (Or.inl ⟨by rfl, ?_⟩) hHeld ?_ ?_
          rotate_left
          · rintro w' ⟨s0, s1, s2, s3, s4, s5, s6, s7, s8, s9, s10, s11, s12, s13, s14, s15, s16, s17, s18, s19, s20⟩
            go_simp
            with_reducible rfl
          rotate_left
          · simp only [Act.put, List.setIfInBounds_toArray, List.set_cons_zero, List.set_cons_succ, i64_w, i32_w]
            rfl
          refine take_ (i := 19) (N := some 53) (v := ?_) (a' := ?_) (tf 20 9) rfl rfl (take_ofW HT_.out HW_.out (by kernel_rfl)) (fun _ _ _ h => h) (Or.inl ⟨by rfl, ?_⟩) hHeld ?_ ?_
          rotate_left
          · rintro w' ⟨s0, s1, s2, s3, s4, s5, s6, s7, s8, s9, s10, s11, s12, s13, s14, s15, s16, s17, s18, s19, s20⟩
            go_simp
            with_reducible rfl
          rotate_left
          · simp only [Act.put, List.setIfInBounds_toArray, List.set_cons_zero, List.set_cons_succ, i64_w, i32_w]
            rfl
          refine one_ (i := 20) (N := some 54) (tf 21 8) rfl rfl (one_of HT_.out (by kernel_rfl)) (by decide) (fun K hK => ?_)
          refine Kd.R_lit_step k26 _ 26 ?hg (N := 54) ?hd (xs := ([(⟨t226, (⟨t227, t228⟩ : S22), t229, (⟨t230, t231, t232⟩ : S24)⟩ : S26), (⟨t226, (⟨t227, t228⟩ : S22), t229, (⟨t230, t231, t232⟩ : S24)⟩ : S26), (⟨t217, (⟨t218, t219⟩ : S22), t220, (⟨t221, t222, t223⟩ : S24)⟩ : S26), (⟨t226, (⟨t227, t228⟩ : S22), t229, (⟨t230, t231, t232⟩ : S24)⟩ : S26)] : List (S26))) (inner := [.int .i32 t226, .int .i32 t227, .int .i32 t228, .int .u8 t229, .int .u8 t230, .int .u8 t231, .int .u8 t232, .int .i32 t226, .int .i32 t227, .int .i32 t228, .int .u8 t229, .int .u8 t230, .int .u8 t231, .int .u8 t232, .int .i32 t217, .int .i32 t218, .int .i32 t219, .int .u8 t220, .int .u8 t221, .int .u8 t222, .int .u8 t223, .int .i32 t226, .int .i32 t227, .int .i32 t228, .int .u8 t229, .int .u8 t230, .int .u8 t231, .int .u8 t232]) (ok := fun _ => True) (okp := fun _ => True) ?hr ?hp (fun _ hk => hk) trivial (Below.refl _ _) (Nat.le_refl _) (by simp) ?_; (case hd => rfl); (case hg => rfl); (case hr => first | (go_simp; done) | (go_simp; rfl)); (case hp => exact (Reps.c7 (show Kd.M k26 _ _ _ (⟨t226, (⟨t227, t228⟩ : S22), t229, (⟨t230, t231, t232⟩ : S24)⟩ : S26) [.int .i32 t226, .int .i32 t227, .int .i32 t228, .int .u8 t229, .int .u8 t230, .int .u8 t231, .int .u8 t232] from (k26_mkM _ _ _ (⟨t226, (⟨t227, t228⟩ : S22), t229, (⟨t230, t231, t232⟩ : S24)⟩ : S26) )) (Reps.c7 (show Kd.M k26 _ _ _ (⟨t226, (⟨t227, t228⟩ : S22), t229, (⟨t230, t231, t232⟩ : S24)⟩ : S26) [.int .i32 t226, .int .i32 t227, .int .i32 t228, .int .u8 t229, .int .u8 t230, .int .u8 t231, .int .u8 t232] from (k26_mkM _ _ _ (⟨t226, (⟨t227, t228⟩ : S22), t229, (⟨t230, t231, t232⟩ : S24)⟩ : S26) )) (Reps.c7 (show Kd.M k26 _ _ _ (⟨t217, (⟨t218, t219⟩ : S22), t220, (⟨t221, t222, t223⟩ : S24)⟩ : S26) [.int .i32 t217, .int .i32 t218, .int .i32 t219, .int .u8 t220, .int .u8 t221, .int .u8 t222, .int .u8 t223] from (k26_mkM _ _ _ (⟨t217, (⟨t218, t219⟩ : S22), t220, (⟨t221, t222, t223⟩ : S24)⟩ : S26) )) (Reps.c7 (show Kd.M k26 _ _ _ (⟨t226, (⟨t227, t228⟩ : S22), t229, (⟨t230, t231, t232⟩ : S24)⟩ : S26) [.int .i32 t226, .int .i32 t227, .int .i32 t228, .int .u8 t229, .int .u8 t230, .int .u8 t231, .int .u8 t232] from (k26_mkM _ _ _ (⟨t226, (⟨t227, t228⟩ : S22), t229, (⟨t230, t231, t232⟩ : S24)⟩ : S26) )) (Reps.none _ _))))))
          intro v257 w39 ho40 hb hg_ hnew_
          clear hg_ hnew_
          (first | rw [← Ny256.out] at ho40 | (simp only [Int.reduceToNat] at ho40; rw [← Ny256.out] at ho40))
          have n0_ := aS (Kd.R_elder' (by (with_reducible repeat (first | apply rA | apply rN | apply rD)); exact HO236.out) (Kd.R_base ho40) hb)
          have n1_ := aS (Kd.R_elder' (by (with_reducible repeat (first | apply rA | apply rN | apply rD)); exact HO239.out) (Kd.R_base ho40) hb)
          have n2_ := aS (Kd.R_elder' (by (with_reducible repeat (first | apply rA | apply rN | apply rD)); exact HO243.out) (Kd.R_base ho40) hb)
          have n3_ := aS (Kd.R_elder' (by (with_reducible repeat (first | apply rA | apply rN | apply rD)); exact HO254.out) (Kd.R_base ho40) hb)
          have n4_ := aS (Kd.R_lower (Kd.R_newB (Kd.R_newB (Kd.R_newB (Kd.R_new' (Kd.R_new' (Kd.R_new' (Kd.R_new' ho40 (Kd.R_lt (by (with_reducible repeat (first | apply rA | apply rN | apply rD)); exact HO236.out))) (Kd.R_lt (by (with_reducible repeat (first | apply rA | apply rN | apply rD)); exact HO239.out))) (Kd.R_lt (by (with_reducible repeat (first | apply rA | apply rN | apply rD)); exact HO243.out))) (Kd.R_lt (by (with_reducible repeat (first | apply rA | apply rN | apply rD)); exact HO254.out))) (g := gb216) (o := .cells #[.int .i32 t208, .int .i32 t209, .int .i32 t210, .int .u8 t211, .int .u8 t212, .int .u8 t213, .int .u8 t214] 26 (0, 0)) (by (with_reducible repeat (first | apply bN | apply bD | apply bA)); exact BK216.out)) (g := gb225) (o := .cells #[.int .i32 t217, .int .i32 t218, .int .i32 t219, .int .u8 t220, .int .u8 t221, .int .u8 t222, .int .u8 t223] 26 (0, 0)) (by (with_reducible repeat (first | apply bN | apply bD | apply bA)); exact BK225.out)) (g := gb233) (o := .cells #[.int .i32 t226, .int .i32 t227, .int .i32 t228, .int .u8 t229, .int .u8 t230, .int .u8 t231, .int .u8 t232] 26 (0, 0)) (by (with_reducible repeat (first | apply bN | apply bD | apply bA)); exact BK233.out)) (below_size (by repeat (first | (with_reducible first | exact HB.out | apply lA | apply lN | apply lD | refine below_set ?_ GE216.out | refine below_set ?_ GE225.out | refine below_set ?_ GE233.out) | exact HB.out))))
          have n5_ := aS (blk_below (g := gb216) (o := .cells #[.int .i32 t208, .int .i32 t209, .int .i32 t210, .int .u8 t211, .int .u8 t212, .int .u8 t213, .int .u8 t214] 26 (0, 0)) (by (with_reducible repeat (first | apply bN | apply bD | apply bA)); exact BK216.out) hb)
          have n6_ := aS (blk_below (g := gb225) (o := .cells #[.int .i32 t217, .int .i32 t218, .int .i32 t219, .int .u8 t220, .int .u8 t221, .int .u8 t222, .int .u8 t223] 26 (0, 0)) (by (with_reducible repeat (first | apply bN | apply bD | apply bA)); exact BK225.out) hb)
          have n7_ := aS (blk_below (g := gb233) (o := .cells #[.int .i32 t226, .int .i32 t227, .int .i32 t228, .int .u8 t229, .int .u8 t230, .int .u8 t231, .int .u8 t232] 26 (0, 0)) (by (with_reducible repeat (first | apply bN | apply bD | apply bA)); exact BK233.out) hb)
          have n8_ := aS (below_step (by repeat (first | (with_reducible first | exact HB.out | apply lA | apply lN | apply lD | refine below_set ?_ GE216.out | refine below_set ?_ GE225.out | refine below_set ?_ GE233.out) | exact HB.out)) hb)
          clear HO236
          clear HO239
          clear HO243
          clear HO254
          clear BK216
          clear BK225
          clear BK233
          clear HB
          have HO236 := n0_
          have HO239 := n1_
          have HO243 := n2_
          have HO254 := n3_
          have HO258 := n4_
          have BK216 := n5_
          have BK225 := n6_
          have BK233 := n7_
          have HB := n8_
          clear n0_ n1_ n2_ n3_ n4_ n5_ n6_ n7_ n8_
          clear hb ho40
          obtain ⟨Ao41, co41, eo41⟩ := Kd.R_slice HO243.out
          (first | subst eo41 | (injection eo41 with f1_ f2_ f3_; have f4_ := f1_.symm; have f5_ := f3_.symm; clear f1_ f2_ f3_; subst f4_; subst f5_))
          obtain ⟨Ao42, co42, eo42⟩ := Kd.R_slice HO258.out
          (first | subst eo42 | (injection eo42 with f1_ f2_ f3_; have f4_ := f1_.symm; have f5_ := f3_.symm; clear f1_ f2_ f3_; subst f4_; subst f5_))
          refine hK.out _ _ ⟨(blk_cell BK233.out 0).trans rfl, (blk_cell BK233.out 1).trans rfl, (blk_cell BK233.out 2).trans rfl, (blk_cell BK233.out 3).trans rfl, (blk_cell BK233.out 4).trans rfl, (blk_cell BK233.out 5).trans rfl, (blk_cell BK233.out 6).trans rfl, (blk_cell BK216.out 0).trans rfl, (blk_cell BK216.out 1).trans rfl, (blk_cell BK216.out 2).trans rfl, (blk_cell BK216.out 3).trans rfl, (blk_cell BK216.out 4).trans rfl, (blk_cell BK216.out 5).trans rfl, (blk_cell BK216.out 6).trans rfl, (blk_cell BK225.out 0).trans rfl, (blk_cell BK225.out 1).trans rfl, (blk_cell BK225.out 2).trans rfl, (blk_cell BK225.out 3).trans rfl, (blk_cell BK225.out 4).trans rfl, (blk_cell BK225.out 5).trans rfl, (blk_cell BK225.out 6).trans rfl⟩ (fun hHeld => ?_)
          clear hK K
          refine norm_ (a' := ?_) ?_ ?_
          rotate_left
          · show Act.put _ (some 54) _ = _
            simp only [Act.put, List.setIfInBounds_toArray, List.set_cons_zero, List.set_cons_succ, i64_w, i32_w]
            rfl
          refine one_ (i := 21) (N := some 55) (tf 22 7) rfl rfl (one_of HT_.out (by kernel_rfl)) (by decide) (fun K hK => ?_)
          refine goes_ Try.func38 (by kernel_rfl) rfl #[.slice Ao41 t241.length co41, .slice Ao42 y256.length co42] (by rfl) rfl rfl (by (try simp only [List.map_toArray, List.map_cons, List.map_nil]); first | done | rfl | (simp only [List.length_drop, List.length_take]; rfl)) ?_
          with_reducible refine (line_Same.calls k _ _ t241 _ _ y256 true _ ?side1 ?side2 ?side3 ?side4 A12.out).mono ?_
          (case side1 => repeat (first | exact (Kd.R_reads' HO243.out).2.2 | (with_reducible refine Kd.C_alloc ?_ _) | (with_reducible refine Kd.C_drewN ?_ _) | (with_reducible refine Kd.C_drew ?_)))
          (case side2 => exact (Kd.R_reads' HO243.out).2.1)
          (case side3 => repeat (first | exact (Kd.R_reads' HO258.out).2.2 | (with_reducible refine Kd.C_alloc ?_ _) | (with_reducible refine Kd.C_drewN ?_ _) | (with_reducible refine Kd.C_drew ?_)))
          (case side4 => exact (Kd.R_reads' HO258.out).2.1)
          rintro e w' ⟨rfl, ⟨nd, rfl⟩⟩
          refine ⟨_, rfl, ?_⟩
          refine hK.out _ _ ⟨(blk_cell BK233.out 0).trans rfl, (blk_cell BK233.out 1).trans rfl, (blk_cell BK233.out 2).trans rfl, (blk_cell BK233.out 3).trans rfl, (blk_cell BK233.out 4).trans rfl, (blk_cell BK233.out 5).trans rfl, (blk_cell BK233.out 6).trans rfl, (blk_cell BK216.out 0).trans rfl, (blk_cell BK216.out 1).trans rfl, (blk_cell BK216.out 2).trans rfl, (blk_cell BK216.out 3).trans rfl, (blk_cell BK216.out 4).trans rfl, (blk_cell BK216.out 5).trans rfl, (blk_cell BK216.out 6).trans rfl, (blk_cell BK225.out 0).trans rfl, (blk_cell BK225.out 1).trans rfl, (blk_cell BK225.out 2).trans rfl, (blk_cell BK225.out 3).trans rfl, (blk_cell BK225.out 4).trans rfl, (blk_cell BK225.out 5).trans rfl, (blk_cell BK225.out 6).trans rfl⟩ (fun hHeld => ?_)
          clear hK K
          refine norm_ (a' := ?_) ?_ ?_
          rotate_left
          · show Act.put _ (some 55) _ = _
            simp only [Act.put, List.setIfInBounds_toArray, List.set_cons_zero, List.set_cons_succ, i64_w, i32_w]
            rfl
          refine pure_ (i := 22) (N := some 56) (v := ?_) (a' := ?_) (tf 23 6) rfl rfl (any_of HT_.out (by kernel_rfl)) (fun _ _ _ h => h) (Or.inl ⟨by rfl, ?_⟩) ?_ ?_
          rotate_left
          · intro w'
            go_simp
            with_reducible rfl
          rotate_left
          · simp only [Act.put, List.setIfInBounds_toArray, List.set_cons_zero, List.set_cons_succ, i64_w, i32_w]
            rfl
          refine pure_ (i := 23) (N := some 57) (v := ?_) (a' := ?_) (tf 24 5) rfl rfl (any_of HT_.out (by kernel_rfl)) (fun _ _ _ h => h) (Or.inl ⟨by rfl, ?_⟩) ?_ ?_
          rotate_left
          · intro w'
            go_simp
            with_reducible rfl
          rotate_left
          · simp only [Act.put, List.setIfInBounds_toArray, List.set_cons_zero, List.set_cons_succ, i64_w, i32_w]
            rfl
          refine pure_ (i := 24) (N := some 58) (v := ?_) (a' := ?_) (tf 25 4) rfl rfl (any_of HT_.out (by kernel_rfl)) (fun _ _ _ h => h) (Or.inl ⟨by rfl, ?_⟩) ?_ ?_
          rotate_left
          · intro w'
            go_simp
            with_reducible rfl
          rotate_left
          · simp only [Act.put, List.setIfInBounds_toArray, List.set_cons_zero, List.set_cons_succ, i64_w, i32_w]
            rfl
          refine take_ (i := 25) (N := some 59) (v := ?_) (a' := ?_) (tf 26 3) rfl rfl (take_ofW HT_.out HW_.out (by kernel_rfl)) (fun _ _ _ h => h) (Or.inl ⟨by rfl, ?_⟩) hHeld ?_ ?_
          rotate_left
          · rintro w' ⟨s0, s1, s2, s3, s4, s5, s6, s7, s8, s9, s10, s11, s12, s13, s14, s15, s16, s17, s18, s19, s20⟩
            go_simp
            with_reducible rfl
          rotate_left
          · simp only [Act.put, List.setIfInBounds_toArray, List.set_cons_zero, List.set_cons_succ, i64_w, i32_w]
            rfl
          refine pure_ (i := 26) (N := some 60) (v := ?_) (a' := ?_) (tf 27 2) rfl rfl (any_of HT_.out (by kernel_rfl)) (fun _ _ _ h => h) (Or.inl ⟨by rfl, ?_⟩) ?_ ?_
          rotate_left
          · intro w'
            go_simp
            with_reducible rfl
          rotate_left
          · simp only [Act.put, List.setIfInBounds_toArray, List.set_cons_zero, List.set_cons_succ, i64_w, i32_w]
            rfl
          refine pure_ (i := 27) (N := some 61) (v := ?_) (a' := ?_) (tf 28 1) rfl rfl (any_of HT_.out (by kernel_rfl)) (fun _ _ _ h => h) (Or.inl ⟨by rfl, ?_⟩) ?_ ?_
          rotate_left
          · intro w'
            go_simp
            with_reducible rfl
          rotate_left
          · simp only [Act.put, List.setIfInBounds_toArray, List.set_cons_zero, List.set_cons_succ, i64_w, i32_w]
            rfl
          refine pure_ (i := 28) (N := some 0) (v := ?_) (a' := ?_) (tf 29 0) rfl rfl (any_of HT_.out (by kernel_rfl)) (fun _ _ _ h => h) (Or.inl ⟨by rfl, ?_⟩) ?_ ?_
          rotate_left
          · intro w'
            go_simp
            with_reducible rfl
          rotate_left
          · simp only [Act.put, List.setIfInBounds_toArray, List.set_cons_zero, List.set_cons_succ, i64_w, i32_w]
            rfl
          refine done_ (done_of HT_.out (by kernel_rfl)) ?_
          try go_wp2
          go_ret
          exact ⟨by first | rfl | (simp <;> rfl) | (simp [*] <;> rfl), by repeat (first | (with_reducible first | exact HB.out | apply lA | apply lN | apply lD | refine below_set ?_ GE216.out | refine below_set ?_ GE225.out | refine below_set ?_ GE233.out) | exact HB.out)⟩
        · replace c13 := Bool.eq_false_iff.mpr c13
          subst c13
          have H1 : (some false) = some r := by rw [if_neg (show ¬ (false = true) by decide)] at H; exact H
          rw [HRT.out] at H1; cases H1
      · replace c11 := Bool.eq_false_iff.mpr c11
        subst c11
        have H1 : (some false) = some r := by rw [if_neg (show ¬ (false = true) by decide)] at H; exact H
        rw [HRT.out] at H1; cases H1
    · replace c10 := Bool.eq_false_iff.mpr c10
      subst c10
      have H1 : (some false) = some r := by rw [if_neg (show ¬ (false = true) by decide)] at H; exact H
      rw [HRT.out] at H1; cases H1
  · replace c7 := Bool.eq_false_iff.mpr c7
    subst c7
    have H1 : (some false) = some r := by rw [if_neg (show ¬ (false = true) by decide)] at H; exact H
    rw [HRT.out] at H1; cases H1/-! ### prolepsislaw06_known: function 41: of own contracts -/
def prolepsislaw06_known.f  : Option (Bool) := some true
theorem prolepsislaw06_known.calls  (r : Bool) (w : World) (h : prolepsislaw06_known.f  = some r) :
    Calls Try.prog 41 #[] w fun e w' => e = .returned (.bool r) ∧ Below w.heap.size w w' := by
  cases h
  exact prolepsislaw06_knownB.calls 100 true w (by decide +kernel) rfl

def prolepsislaw06_Of.l0 : Nat → List (S26) → List (S32) → Int → Option ((List (S32)))
  | 0, _, _, _ => none
  | k + 1, x0, x3, x4 => if x4 < (x0.length : Int) then (if 0 ≤ x4 then ((prolepsislaw05_Of.f ((rd_T26 x0 x4).f0) ((rd_T26 x0 x4).f1.f0) ((rd_T26 x0 x4).f1.f1) ((rd_T26 x0 x4).f2) ((rd_T26 x0 x4).f3.f0) ((rd_T26 x0 x4).f3.f1) ((rd_T26 x0 x4).f3.f2)).bind fun bt212 => (if x3.length < 4398046511104 then (prolepsislaw06_Of.l0 k x0 (x3 ++ [(⟨bt212.1, (⟨bt212.2.1, bt212.2.2.1⟩ : S29), bt212.2.2.2.1, (⟨bt212.2.2.2.2.1, bt212.2.2.2.2.2.1, bt212.2.2.2.2.2.2⟩ : S30)⟩ : S32)]) (wrap64 (x4 + 1))) else (none))) else (none)) else (some x3)
def prolepsislaw06_Of.f (k : Nat) (l0 : List (S26)) : Option ((List (S32))) := prolepsislaw06_Of.l0 k l0 ([] : List (S32)) 0
set_option maxHeartbeats 8000000 in
set_option maxRecDepth 100000 in
theorem prolepsislaw06_Of.calls (k : Nat) (A0 : Option Addr) (c0 : Nat) (l0 : List (S26)) (r : List (S32)) (w : World) (hr0 : Kd.C k26 w A0 l0.length l0) (hc0 : l0.length ≤ c0) (h : prolepsislaw06_Of.f k l0 = some r) :
    Calls Try.prog 42 #[.slice A0 l0.length c0] w fun e w' => ∃ v0_ : Value, e = .returned (v0_) ∧ Kd.R k32 32 w' w.heap.size (fun _ => True) v0_ r ∧ Below w.heap.size w w' := by
  have hu26 := Try.underlying26
  have HR0 := Aside0.mk hr0
  have HC0 := Aside0.mk hc0
  clear hr0 hc0
  have HB := aS (Below.refl w.heap.size w)
  have H : (prolepsislaw06_Of.l0 k l0 ([] : List (S32)) 0) = some r := h
  clear h
  have H' := Aside0.mk H
  clear H
  go_enter Try.func42, Try.ntmps42
  go_wp2
  go_loopg [3, 4] k (fun kq v3 v4 w' => ∃ (x3_1 : List (S32)) (x4_1 : Int), v4 = .int .i64 x4_1 ∧ Aside0 (prolepsislaw06_Of.l0 kq l0 x3_1 x4_1 = some r) ∧ Aside0 (kq ≤ k) ∧ Aside0 (Kd.R k32 32 w' w.heap.size (fun _ => True) v3 x3_1) ∧ Aside0 (Below w.heap.size w w'))
  case atStart => exact ⟨(([] : List (S32))), (0), (by first | rfl | (simp; done) | (simp [*]; done)), H', ⟨Nat.le_refl _⟩, ⟨by first | exact Kd.R_nil _ _ _ _ _ | exact Kd.N_nil _ _ _ _ _ | exact Kd.V_nil _ _ _ _ _ | exact Kd.Q_nil _ _ _ _ _ | exact Kd.S_nil _ _ _ _ _⟩, ⟨by repeat (first | (with_reducible first | exact HB.out | apply lA | apply lN | apply lD) | exact HB.out)⟩⟩
  case round =>
    clear H'
    obtain ⟨x3_1, x4_1, rfl, HA, HK1, HO_3, HB⟩ := hrel
    cases gk with
    | zero => exact absurd HA.out (by simp [prolepsislaw06_Of.l0])
    | succ k1 =>
      have H := HA.out
      clear HA
      simp only [prolepsislaw06_Of.l0] at H
      by_cases c2 : x4_1 < (l0.length : Int)
      · rw [if_pos c2] at H
        have c2b0 : decide (x4_1 < (l0.length : Int)) = true := decide_eq_true c2
        clear c2
        by_cases c3 : 0 ≤ x4_1
        · rw [if_pos c3] at H
          have c3b0 : decide (0 ≤ x4_1) = true := decide_eq_true c3
          clear c3
          replace H := Option.bind_eq_some_iff.mp H
          obtain ⟨⟨t212, t213, t214, t215, t216, t217, t218⟩, A40, H⟩ := H
          try dsimp only at H
          have A4 := Aside0.mk A40
          clear A40
          by_cases c5 : x3_1.length < 4398046511104
          · rw [if_pos c5] at H
            have LMc5 := Aside0.mk c5
            clear c5
            obtain ⟨y219, hy219⟩ : ∃ y_ : List (S32), y_ = (x3_1 ++ [(⟨t212, (⟨t213, t214⟩ : S29), t215, (⟨t216, t217, t218⟩ : S30)⟩ : S32)]) := ⟨_, rfl⟩
            replace H : (prolepsislaw06_Of.l0 k1 l0 y219 (wrap64 (x4_1 + 1))) = some r := by first | (rw [hy219]; with_reducible exact H) | (have H2_ := (Option.bind_some _ _).symm.trans H; rw [hy219]; with_reducible exact H2_) | (have H2_ := (Option.bind_some _ _).symm.trans H; with_reducible exact H2_) | with_reducible exact H | (rw [hy219]; exact H) | exact H
            have Ny219 := Aside0.mk hy219
            clear hy219
            have H' := Aside0.mk H
            clear H
            have p211 : 0 ≤ (x4_1 : Int) := of_decide_eq_true (by first | (with_reducible assumption) | assumption)
            have q211 : x4_1 < (l0.length : Int) := of_decide_eq_true (by first | (with_reducible assumption) | assumption)
            obtain ⟨ad211, e211, hx211_0, hx211_1, hx211_2, hx211_3, hx211_4, hx211_5, hx211_6⟩ := at_T26 HR0.out x4_1 p211 q211
            cases e211
            replace hx211_0 := (HB.out.cell (World.block_lt_of_cell? w _ hx211_0)).trans hx211_0
            replace hx211_1 := (HB.out.cell (World.block_lt_of_cell? w _ hx211_1)).trans hx211_1
            replace hx211_2 := (HB.out.cell (World.block_lt_of_cell? w _ hx211_2)).trans hx211_2
            replace hx211_3 := (HB.out.cell (World.block_lt_of_cell? w _ hx211_3)).trans hx211_3
            replace hx211_4 := (HB.out.cell (World.block_lt_of_cell? w _ hx211_4)).trans hx211_4
            replace hx211_5 := (HB.out.cell (World.block_lt_of_cell? w _ hx211_5)).trans hx211_5
            replace hx211_6 := (HB.out.cell (World.block_lt_of_cell? w _ hx211_6)).trans hx211_6
            replace p211 := eq_true p211
            replace q211 := eq_true q211
            go_wp2_with (first | ((with_reducible refine gate_callee (f := 18) rfl ?_); refine goesL_ (some 16) rfl rfl Try.func18 (by kernel_rfl) rfl #[.agg #[.int .i32 ((rd_T26 l0 x4_1).f0), .int .i32 ((rd_T26 l0 x4_1).f1.f0), .int .i32 ((rd_T26 l0 x4_1).f1.f1), .int .u8 ((rd_T26 l0 x4_1).f2), .int .u8 ((rd_T26 l0 x4_1).f3.f0), .int .u8 ((rd_T26 l0 x4_1).f3.f1), .int .u8 ((rd_T26 l0 x4_1).f3.f2)]] rfl (by (try simp only [List.map_toArray, List.map_cons, List.map_nil]); first | done | rfl | (simp only [List.length_drop, List.length_take]; rfl)) ?_; (with_reducible refine (prolepsislaw05_Of.calls ((rd_T26 l0 x4_1).f0) ((rd_T26 l0 x4_1).f1.f0) ((rd_T26 l0 x4_1).f1.f1) ((rd_T26 l0 x4_1).f2) ((rd_T26 l0 x4_1).f3.f0) ((rd_T26 l0 x4_1).f3.f1) ((rd_T26 l0 x4_1).f3.f2) t212 t213 t214 t215 t216 t217 t218 _ A4.out).mono ?_); rintro e w6 ⟨rfl, hb⟩; refine ⟨_, rfl, ?_⟩; have n0_ := aS (Kd.R_below (by (with_reducible repeat (first | apply rA | apply rN | apply rD)); exact HO_3.out) hb); have n1_ := aS (below_step (by repeat (first | (with_reducible first | exact HB.out | apply lA | apply lN | apply lD) | exact HB.out)) hb); clear HO_3; clear HB; have HO_3 := n0_; have HB := n1_; clear n0_ n1_; (try clear hb); (try clear hb2); (try clear hk); (try clear hi)) | ((with_reducible refine gate_builtin (b := .append) (xs := #[.tmp 11, .tmp 17]) rfl ?_); at_builtin; refine Kd.R_append k32 (w0 := w) w.heap.size rfl (.tmp 11) (.tmp 17) 67 32 (.agg #[(.int .i64 0), (.int .i64 0), (.int .i64 0), (.int .u8 0), (.int .u8 0), (.int .u8 0), (.int .u8 0)]) 32 rfl Try.underlying67 info32 rfl (by decide) (by omega) u3 x3_1 (⟨t212, (⟨t213, t214⟩ : S29), t215, (⟨t216, t217, t218⟩ : S30)⟩ : S32) [.int .i64 t212, .int .i64 t213, .int .i64 t214, .int .u8 t215, .int .u8 t216, .int .u8 t217, .int .u8 t218] (fun _ => True) (fun _ => False) rfl rfl ?aP (fun _ hk => hk.elim) ?aF ?aO ?aB ?aS ?aL ?_; (case aP => exact k32_mkM _ _ _ (⟨t212, (⟨t213, t214⟩ : S29), t215, (⟨t216, t217, t218⟩ : S30)⟩ : S32)); (case aB => exact (by repeat (first | (with_reducible first | exact HB.out | apply lA | apply lN | apply lD) | exact HB.out))); (case aF => exact (fun _ _ => trivial)); (case aO => exact (by (with_reducible repeat (first | apply rA | apply rN | apply rD)); exact HO_3.out)); (case aS => exact (below_size (by repeat (first | (with_reducible first | exact HB.out | apply lA | apply lN | apply lD) | exact HB.out)))); (case aL => have := LMc5.out; omega); intro v220 w7 ho hb hg hat; rw [← Ny219.out] at ho; have n0_ := aS (hb); have n1_ := aS (ho); clear HB; clear HO_3; have HB := n0_; have HO221 := n1_; clear n0_ n1_; clear ho hb hg hat))
            go_roundg k1
            case measure => have := HK1.out; omega
            case rel => exact ⟨(y219), (wrap64 (x4_1 + 1)), (by first | rfl | (simp; done) | (simp [*]; done)), H', ⟨by have := HK1.out; omega⟩, ⟨by (with_reducible repeat (first | apply rA | apply rN | apply rD)); exact HO221.out⟩, ⟨by repeat (first | (with_reducible first | exact HB.out | apply lA | apply lN | apply lD) | exact HB.out)⟩⟩
          · rw [if_neg c5] at H
            exact absurd H (by simp)
        · rw [if_neg c3] at H
          exact absurd H (by simp)
      · rw [if_neg c2] at H
        have c2b0 : decide (x4_1 < (l0.length : Int)) = false := decide_eq_false c2
        clear c2
        obtain rfl := Option.some.inj H
        go_wp2
        go_ret
        exact ⟨_, by first | rfl | (simp <;> rfl) | (simp [*] <;> rfl), by (with_reducible repeat (first | apply rA | apply rN | apply rD)); exact HO_3.out, by repeat (first | (with_reducible first | exact HB.out | apply lA | apply lN | apply lD) | exact HB.out)⟩

def prolepsisref05_Rest.f (a0_0 : Int) (a0_1 : Int) (a0_2 : Int) (a0_3 : Int) (a0_4 : Int) (a0_5 : Int) (a0_6 : Int) : Option (Int × Int × Int × Int × Int × Int × Int) := some (0, 0, 0, 0, a0_4, a0_5, a0_6)
set_option maxHeartbeats 8000000 in
set_option maxRecDepth 100000 in
theorem prolepsisref05_Rest.calls (a0_0 : Int) (a0_1 : Int) (a0_2 : Int) (a0_3 : Int) (a0_4 : Int) (a0_5 : Int) (a0_6 : Int) (r1 : Int) (r2 : Int) (r3 : Int) (r4 : Int) (r5 : Int) (r6 : Int) (r7 : Int) (w : World) (h : prolepsisref05_Rest.f a0_0 a0_1 a0_2 a0_3 a0_4 a0_5 a0_6 = some (r1, r2, r3, r4, r5, r6, r7)) :
    Calls Try.prog 24 #[.agg #[.int .i64 a0_0, .int .i64 a0_1, .int .i64 a0_2, .int .u8 a0_3, .int .u8 a0_4, .int .u8 a0_5, .int .u8 a0_6]] w fun e w' => e = .returned (.agg #[.int .i64 r1, .int .i64 r2, .int .i64 r3, .int .u8 r4, .int .u8 r5, .int .u8 r6, .int .u8 r7]) ∧ Below w.heap.size w w' := by
  have hu32 := Try.underlying32
  have hu30 := Try.underlying30
  have HB := aS (Below.refl w.heap.size w)
  have H : (some (0, 0, 0, 0, a0_4, a0_5, a0_6)) = some (r1, r2, r3, r4, r5, r6, r7) := h
  clear h
  simp only [Option.some.injEq, Prod.mk.injEq] at H
  obtain ⟨rfl, rfl, rfl, rfl, rfl, rfl, rfl⟩ := H
  go_enter Try.func24, Try.ntmps24
  go_wp2_with (first | ((with_reducible refine gate_dst (N := 1) rfl ?_); refine box_event ?hg (N := 1) ?hd (cs := #[.int .i64 a0_0, .int .i64 a0_1, .int .i64 a0_2, .int .u8 a0_3, .int .u8 a0_4, .int .u8 a0_5, .int .u8 a0_6]) (t := 32) ?hr ?_; (case hd => rfl); (case hg => rfl); (case hr => first | (go_simp; done) | (go_simp; rfl)); intro gb222 hg w2 hbox hb; have n0_ := aS (below_step (by repeat (first | (with_reducible first | exact HB.out | apply lA | apply lN | apply lD) | exact HB.out)) hb); have n1_ := aS (hbox); have n2_ := aS ((by rw [hg]; exact (below_size (by repeat (first | (with_reducible first | exact HB.out | apply lA | apply lN | apply lD) | exact HB.out))) : w.heap.size ≤ gb222)); have n3_ := aS ((by rw [hg]; exact (below_size (by repeat (first | (with_reducible first | exact HB.out | apply lA | apply lN | apply lD) | exact HB.out))) : w.heap.size ≤ gb222)); clear HB; have HB := n0_; have BK222 := n1_; have GW222 := n2_; have GE222 := n3_; clear n0_ n1_ n2_ n3_; clear hb hbox hg) | ((with_reducible refine gate_dst (N := 2) rfl ?_); refine box_event ?hg (N := 2) ?hd (cs := #[.int .i64 0, .int .i64 0, .int .i64 0, .int .u8 0, .int .u8 0, .int .u8 0, .int .u8 0]) (t := 32) ?hr ?_; (case hd => rfl); (case hg => rfl); (case hr => first | (go_simp; done) | (go_simp; rfl)); intro gb223 hg w3 hbox hb; have n0_ := aS (blk_below (g := gb222) (o := .cells #[.int .i64 a0_0, .int .i64 a0_1, .int .i64 a0_2, .int .u8 a0_3, .int .u8 a0_4, .int .u8 a0_5, .int .u8 a0_6] 32 (0, 0)) (by (with_reducible repeat (first | apply bN | apply bD | apply bA)); exact BK222.out) hb); have n1_ := aS (below_step (by repeat (first | (with_reducible first | exact HB.out | apply lA | apply lN | apply lD | refine below_set ?_ GE222.out) | exact HB.out)) hb); have n2_ := aS (hbox); have n3_ := aS ((by rw [hg]; exact (below_size (by repeat (first | (with_reducible first | exact HB.out | apply lA | apply lN | apply lD | refine below_set ?_ GE222.out) | exact HB.out))) : w.heap.size ≤ gb223)); have n4_ := aS ((by rw [hg]; exact (below_size (by repeat (first | (with_reducible first | exact HB.out | apply lA | apply lN | apply lD | refine below_set ?_ GE222.out) | exact HB.out))) : w.heap.size ≤ gb223)); have n5_ := aS ((by rw [hg]; exact Nat.ne_of_lt (blk_lt (g := gb222) (o := .cells #[.int .i64 a0_0, .int .i64 a0_1, .int .i64 a0_2, .int .u8 a0_3, .int .u8 a0_4, .int .u8 a0_5, .int .u8 a0_6] 32 (0, 0)) (by (with_reducible repeat (first | apply bN | apply bD | apply bA)); exact BK222.out)) : gb222 ≠ gb223)); have n6_ := aS ((by rw [hg]; exact Nat.ne_of_gt (blk_lt (g := gb222) (o := .cells #[.int .i64 a0_0, .int .i64 a0_1, .int .i64 a0_2, .int .u8 a0_3, .int .u8 a0_4, .int .u8 a0_5, .int .u8 a0_6] 32 (0, 0)) (by (with_reducible repeat (first | apply bN | apply bD | apply bA)); exact BK222.out)) : gb223 ≠ gb222)); clear BK222; clear HB; have BK222 := n0_; have HB := n1_; have BK223 := n2_; have GW223 := n3_; have GE223 := n4_; have NB222_223 := n5_; have NB223_222 := n6_; clear n0_ n1_ n2_ n3_ n4_ n5_ n6_; clear hb hbox hg; have hnb4 := NB222_223.out; have hnc4 := NB223_222.out; obtain ⟨hcz5_0, hcz5_1, hcz5_2, hcz5_3, hcz5_4, hcz5_5, hcz5_6, hfz5_0, hfz5_1, hfz5_2, hfz5_3, hfz5_4, hfz5_5, hfz5_6⟩ := cel7 BK222.out; obtain ⟨hcz6_0, hcz6_1, hcz6_2, hcz6_3, hcz6_4, hcz6_5, hcz6_6, hfz6_0, hfz6_1, hfz6_2, hfz6_3, hfz6_4, hfz6_5, hfz6_6⟩ := cel7 BK223.out))
  refine bodyPost_ret (results_cell_row rfl _ _ gb223 32 #[.int .i64 0, .int .i64 0, .int .i64 0, .int .u8 0, .int .u8 a0_4, .int .u8 a0_5, .int .u8 a0_6] (0, 0) _ rfl (by (with_reducible repeat (first | apply bN | apply bD | apply bA)); refine blk_put (cs := #[.int .i64 0, .int .i64 0, .int .i64 0, .int .u8 0, .int .u8 a0_4, .int .u8 a0_5, .int .u8 0]) ?_ 6 _ rfl; refine blk_put (cs := #[.int .i64 0, .int .i64 0, .int .i64 0, .int .u8 0, .int .u8 a0_4, .int .u8 0, .int .u8 0]) ?_ 5 _ rfl; refine blk_put (cs := #[.int .i64 0, .int .i64 0, .int .i64 0, .int .u8 0, .int .u8 0, .int .u8 0, .int .u8 0]) ?_ 4 _ rfl; refine blk_put (cs := #[.int .i64 0, .int .i64 0, .int .i64 0, .int .u8 0, .int .u8 0, .int .u8 0, .int .u8 0]) ?_ 3 _ rfl; refine blk_put (cs := #[.int .i64 0, .int .i64 0, .int .i64 0, .int .u8 0, .int .u8 0, .int .u8 0, .int .u8 0]) ?_ 2 _ rfl; refine blk_put (cs := #[.int .i64 0, .int .i64 0, .int .i64 0, .int .u8 0, .int .u8 0, .int .u8 0, .int .u8 0]) ?_ 1 _ rfl; refine blk_put (cs := #[.int .i64 0, .int .i64 0, .int .i64 0, .int .u8 0, .int .u8 0, .int .u8 0, .int .u8 0]) ?_ 0 _ rfl; (with_reducible repeat (first | apply bN | apply bD | apply bA)); exact BK223.out) Try.underlying32 rfl (by kernel_rfl)) rfl ?_
  exact ⟨by first | rfl | (simp <;> rfl) | (simp [*] <;> rfl), by repeat (first | (with_reducible first | exact HB.out | apply lA | apply lN | apply lD | refine below_set ?_ GE222.out | refine below_set ?_ GE223.out) | exact HB.out)⟩

def prolepsisref03_in.l0 : Nat → Int → List Int → Int → Option (Bool)
  | 0, _, _, _ => none
  | k + 1, x0, x1, x5 => if (wrap64 (x5 + 1)) < (x1.length : Int) then (if 0 ≤ x5 then (if x5 < (x1.length : Int) then (if x0 ≥ (rd x1 x5) then (if 0 ≤ (wrap64 (x5 + 1)) then (if x0 ≤ (rd x1 (wrap64 (x5 + 1))) then (some true) else (prolepsisref03_in.l0 k x0 x1 (wrap64 (x5 + 2)))) else (none)) else (prolepsisref03_in.l0 k x0 x1 (wrap64 (x5 + 2)))) else (none)) else (none)) else (some false)
def prolepsisref03_in.f (k : Nat) (a0 : Int) (l1 : List Int) : Option (Bool) := prolepsisref03_in.l0 k a0 l1 0
set_option maxHeartbeats 8000000 in
set_option maxRecDepth 100000 in
theorem prolepsisref03_in.calls (k : Nat) (a0 : Int) (A1 : Option Addr) (c1 : Nat) (l1 : List Int) (r : Bool) (w : World) (hr1 : Kd.C (Kd.int .i64) w A1 l1.length l1) (hc1 : l1.length ≤ c1) (h : prolepsisref03_in.f k a0 l1 = some r) :
    Calls Try.prog 126 #[.int .i64 a0, .slice A1 l1.length c1] w fun e w' => e = .returned (.bool r) ∧ Drawn0 w w' := by
  have HR1 := Aside0.mk hr1
  have HC1 := Aside0.mk hc1
  clear hr1 hc1
  have H : (prolepsisref03_in.l0 k a0 l1 0) = some r := h
  clear h
  have H' := Aside0.mk H
  clear H
  go_enter Try.func126, Try.ntmps126
  go_wp2
  go_loopg [5] k (fun kq v5 w' => ∃ (x5_1 : Int), v5 = .int .i64 x5_1 ∧ Aside0 (prolepsisref03_in.l0 kq a0 l1 x5_1 = some r) ∧ Aside0 (kq ≤ k) ∧ Drawn0 w w')
  case atStart => exact ⟨(0), (by first | rfl | (simp; done) | (simp [*]; done)), H', ⟨Nat.le_refl _⟩, by repeat (first | exact Drawn0.refl _ | apply Drawn0.step)⟩
  case round =>
    clear H'
    try clear c1
    try clear p2
    obtain ⟨x5_1, rfl, HA, HK1, ⟨m1, rfl⟩⟩ := hrel
    cases gk with
    | zero => exact absurd HA.out (by simp [prolepsisref03_in.l0])
    | succ k1 =>
      have H := HA.out
      clear HA
      simp only [prolepsisref03_in.l0] at H
      by_cases c3 : (wrap64 (x5_1 + 1)) < (l1.length : Int)
      · rw [if_pos c3] at H
        have c3b0 : decide ((wrap64 (x5_1 + 1)) < (l1.length : Int)) = true := decide_eq_true c3
        clear c3
        by_cases c4 : 0 ≤ x5_1
        · rw [if_pos c4] at H
          have c4b0 : decide (0 ≤ x5_1) = true := decide_eq_true c4
          clear c4
          by_cases c5 : x5_1 < (l1.length : Int)
          · rw [if_pos c5] at H
            have c5b0 : decide (x5_1 < (l1.length : Int)) = true := decide_eq_true c5
            clear c5
            by_cases c6 : a0 ≥ (rd l1 x5_1)
            · rw [if_pos c6] at H
              have c6b0 : decide ((rd l1 x5_1) ≤ a0) = true := decide_eq_true c6
              clear c6
              obtain ⟨ji7, hji7⟩ : ∃ j_ : Int, (wrap64 (x5_1 + 1)) = j_ := ⟨_, rfl⟩
              replace H : (if 0 ≤ (ji7) then (if a0 ≤ (rd l1 (ji7)) then (some true) else (prolepsisref03_in.l0 k1 a0 l1 (wrap64 (x5_1 + 2)))) else (none)) = some r := by first | (rw [hji7] at H; exact H) | (simp only [hji7] at H ⊢; exact H)
              (try rw [hji7] at c3b0)
              have hji7w : (IntKind.i64.wrap (x5_1 + 1)) = ji7 := (i64_w _).trans hji7
              by_cases c8 : 0 ≤ (ji7)
              · rw [if_pos c8] at H
                have c8b0 : decide (0 ≤ (ji7)) = true := decide_eq_true c8
                clear c8
                by_cases c9 : a0 ≤ (rd l1 (ji7))
                · rw [if_pos c9] at H
                  have c9b0 : decide (a0 ≤ (rd l1 (ji7))) = true := decide_eq_true c9
                  clear c9
                  obtain rfl := Option.some.inj H
                  have p224 : 0 ≤ (x5_1 : Int) := of_decide_eq_true (by first | (with_reducible assumption) | assumption)
                  have q224 : x5_1 < (l1.length : Int) := of_decide_eq_true (by first | (with_reducible assumption) | assumption)
                  obtain ⟨ad224, e224, hx224_0⟩ := Kd.at_int HR1.out x5_1 p224 q224
                  cases e224
                  replace p224 := eq_true p224
                  replace q224 := eq_true q224
                  have p225 : 0 ≤ ((ji7) : Int) := of_decide_eq_true (by first | (with_reducible assumption) | assumption)
                  have q225 : (ji7) < (l1.length : Int) := of_decide_eq_true (by first | (with_reducible assumption) | assumption)
                  obtain ⟨ad225, e225, hx225_0⟩ := Kd.at_int HR1.out (ji7) p225 q225
                  obtain rfl : ad224 = ad225 := (by injection e225)
                  replace p225 := eq_true p225
                  replace q225 := eq_true q225
                  go_wp2
                  go_ret
                  exact ⟨by first | rfl | (simp; done) | (simp only [← hji7] <;> (first | rfl | simp)) | (simp [*]; done), by repeat (first | exact Drawn0.refl _ | apply Drawn0.step)⟩
                · rw [if_neg c9] at H
                  have c9b0 : decide (a0 ≤ (rd l1 (ji7))) = false := decide_eq_false c9
                  clear c9
                  have H' := Aside0.mk H
                  clear H
                  have p224 : 0 ≤ (x5_1 : Int) := of_decide_eq_true (by first | (with_reducible assumption) | assumption)
                  have q224 : x5_1 < (l1.length : Int) := of_decide_eq_true (by first | (with_reducible assumption) | assumption)
                  obtain ⟨ad224, e224, hx224_0⟩ := Kd.at_int HR1.out x5_1 p224 q224
                  cases e224
                  replace p224 := eq_true p224
                  replace q224 := eq_true q224
                  have p225 : 0 ≤ ((ji7) : Int) := of_decide_eq_true (by first | (with_reducible assumption) | assumption)
                  have q225 : (ji7) < (l1.length : Int) := of_decide_eq_true (by first | (with_reducible assumption) | assumption)
                  obtain ⟨ad225, e225, hx225_0⟩ := Kd.at_int HR1.out (ji7) p225 q225
                  obtain rfl : ad224 = ad225 := (by injection e225)
                  replace p225 := eq_true p225
                  replace q225 := eq_true q225
                  go_wp2
                  go_roundg k1
                  case measure => have := HK1.out; omega
                  case rel => exact ⟨(wrap64 (x5_1 + 2)), (by first | rfl | (simp; done) | (simp [*]; done)), H', ⟨by have := HK1.out; omega⟩, by repeat (first | exact Drawn0.refl _ | apply Drawn0.step)⟩
              · rw [if_neg c8] at H
                exact absurd H (by simp)
            · rw [if_neg c6] at H
              have c6b0 : decide ((rd l1 x5_1) ≤ a0) = false := decide_eq_false c6
              clear c6
              have H' := Aside0.mk H
              clear H
              have p224 : 0 ≤ (x5_1 : Int) := of_decide_eq_true (by first | (with_reducible assumption) | assumption)
              have q224 : x5_1 < (l1.length : Int) := of_decide_eq_true (by first | (with_reducible assumption) | assumption)
              obtain ⟨ad224, e224, hx224_0⟩ := Kd.at_int HR1.out x5_1 p224 q224
              cases e224
              replace p224 := eq_true p224
              replace q224 := eq_true q224
              go_wp2
              go_roundg k1
              case measure => have := HK1.out; omega
              case rel => exact ⟨(wrap64 (x5_1 + 2)), (by first | rfl | (simp; done) | (simp [*]; done)), H', ⟨by have := HK1.out; omega⟩, by repeat (first | exact Drawn0.refl _ | apply Drawn0.step)⟩
          · rw [if_neg c5] at H
            exact absurd H (by simp)
        · rw [if_neg c4] at H
          exact absurd H (by simp)
      · rw [if_neg c3] at H
        have c3b0 : decide ((wrap64 (x5_1 + 1)) < (l1.length : Int)) = false := decide_eq_false c3
        clear c3
        obtain rfl := Option.some.inj H
        go_wp2
        go_ret
        exact ⟨by first | rfl | (simp; done) | (simp [*]; done), by repeat (first | exact Drawn0.refl _ | apply Drawn0.step)⟩

def prolepsisref02_Scalar.f (a0 : Int) : Option (Bool) := if a0 ≥ 0 then (if a0 ≤ 1114111 then (if a0 < 55296 then (some true) else (some (decide (a0 > 57343)))) else (some false)) else (some false)
set_option maxHeartbeats 8000000 in
set_option maxRecDepth 100000 in
theorem prolepsisref02_Scalar.calls (a0 : Int) (r : Bool) (w : World) (h : prolepsisref02_Scalar.f a0 = some r) :
    Calls Try.prog 127 #[.int .i64 a0] w fun e w' => e = .returned (.bool r) ∧ Drawn0 w w' := by
  have H : (if a0 ≥ 0 then (if a0 ≤ 1114111 then (if a0 < 55296 then (some true) else (some (decide (a0 > 57343)))) else (some false)) else (some false)) = some r := h
  clear h
  by_cases c2 : a0 ≥ 0
  · rw [if_pos c2] at H
    have c2b0 : decide (0 ≤ a0) = true := decide_eq_true c2
    clear c2
    by_cases c3 : a0 ≤ 1114111
    · rw [if_pos c3] at H
      have c3b0 : decide (a0 ≤ 1114111) = true := decide_eq_true c3
      clear c3
      by_cases c4 : a0 < 55296
      · rw [if_pos c4] at H
        have c4b0 : decide (a0 < 55296) = true := decide_eq_true c4
        clear c4
        obtain rfl := Option.some.inj H
        go_enter Try.func127, Try.ntmps127
        go_wp2
        go_ret
        exact ⟨by first | rfl | (simp; done) | (simp [*]; done), by repeat (first | exact Drawn0.refl _ | apply Drawn0.step)⟩
      · rw [if_neg c4] at H
        have c4b0 : decide (a0 < 55296) = false := decide_eq_false c4
        clear c4
        obtain rfl := Option.some.inj H
        go_enter Try.func127, Try.ntmps127
        go_wp2
        go_ret
        exact ⟨by first | rfl | (simp; done) | (simp [*]; done), by repeat (first | exact Drawn0.refl _ | apply Drawn0.step)⟩
    · rw [if_neg c3] at H
      have c3b0 : decide (a0 ≤ 1114111) = false := decide_eq_false c3
      clear c3
      obtain rfl := Option.some.inj H
      go_enter Try.func127, Try.ntmps127
      go_wp2
      go_ret
      exact ⟨by first | rfl | (simp; done) | (simp [*]; done), by repeat (first | exact Drawn0.refl _ | apply Drawn0.step)⟩
  · rw [if_neg c2] at H
    have c2b0 : decide (0 ≤ a0) = false := decide_eq_false c2
    clear c2
    obtain rfl := Option.some.inj H
    go_enter Try.func127, Try.ntmps127
    go_wp2
    go_ret
    exact ⟨by first | rfl | (simp; done) | (simp [*]; done), by repeat (first | exact Drawn0.refl _ | apply Drawn0.step)⟩

end Go.Proofs.Ytblcmcdifgclcaa.PLineMakes
