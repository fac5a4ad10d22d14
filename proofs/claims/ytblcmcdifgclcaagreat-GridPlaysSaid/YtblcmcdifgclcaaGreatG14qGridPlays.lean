/- GridPlays: what its proof leads to. No condition. -/
import Derived.Test.YtblcmcdifgclcaaGreatG13qGridPlays
import Derived.Test.YtblcmcdifgclcaaGreatG6qGridPlays
namespace Go.Proofs.YtblcmcdifgclcaaGreat.PGridPlays
open Go.RowKit Go.Proofs.YtblcmcdifgclcaaGreatW.PrintWords Go.Proofs.YtblcmcdifgclcaaGreatW.PrintLast Go.Proofs.YtblcmcdifgclcaaGreatW.PrintMore
attribute [local go_sem] isSome_setCell max2_int min2_int max_two min_two
set_option linter.unusedVariables false
set_option linter.unusedSimpArgs false
theorem infoC : (Tryz.prog.info? 40).map (fun i => (i.zero, i.size, i.bytes)) = some (some (.agg #[(.int .i32 0), (.int .i32 0), (.int .i32 0), (.int .u8 0), (.int .u8 0), (.int .u8 0), (.int .u8 0)]), 7, 16) := by kernel_rfl
def isW (l : List S40) (k v : Int) : Bool := decide (0 ≤ k) && (decide (k < l.length) && decide ((rd_T40 l k).f2 = v))
def aloneC (l : List S40) (i : Int) : Bool := (isW l i 2 && !isW l (wrap64 (i + 1)) 0) || (isW l i 0 && !isW l (wrap64 (i - 1)) 2)
set_option maxHeartbeats 1000000 in
set_option maxRecDepth 100000 in
theorem is_any (g : Nat) (A : Option Addr) (c : Nat) (l : List S40) (k v : Int) (b : Bool) (w : World) (hg : w.cell? ⟨g, 0, none⟩ = some (.slice A l.length c)) (hC : Kd.C k40 w A l.length l) (hb : isW l k v = b) :
 Calls Tryz.prog 104 #[.int .i64 k, .int .u8 v, .pointer (some ⟨g, 0, none⟩)] w fun e w' => e = .returned (.bool b) ∧ w' = w := by
 unfold isW at hb
 by_cases h0 : 0 ≤ k
 ·have k0 : decide (0 ≤ k) = true := decide_eq_true h0
  by_cases h1 : k < (l.length : Int)
  ·have k1 : decide (k < (l.length : Int)) = true := decide_eq_true h1
   obtain ⟨ad, rfl, -, -, -, hc, -⟩ := at_T40 hC k h0 h1
   obtain ⟨x, hx⟩ : ∃ x, (rd_T40 l k).f2 = x := ⟨_, rfl⟩
   rw [hx] at hc hb
   have HB := aS (show b = decide (x = v) by rw [← hb]; simp [h0, h1])
   clear hC hb hx
   go_enter Tryz.func104, Tryz.ntmps104
   go_wp2
   go_ret
   exact ⟨by rw [HB.out]; congr 2, rfl⟩
  ·have k1 : decide (k < (l.length : Int)) = false := decide_eq_false h1
   have HB := aS (show b = false by rw [← hb]; simp [h1])
   clear hC hb
   go_enter Tryz.func104, Tryz.ntmps104
   go_wp2
   go_ret
   exact ⟨by rw [HB.out]; rfl, rfl⟩
 ·have k0 : decide (0 ≤ k) = false := decide_eq_false h0
  have HB := aS (show b = false by rw [← hb]; simp [h0])
  clear hC hb
  go_enter Tryz.func104, Tryz.ntmps104
  go_wp2
  go_ret
  exact ⟨by rw [HB.out]; rfl, rfl⟩
theorem k40_ofK {w w1 : World} {base : Nat} {ok : Nat → Prop} {x : S40} {cs : List Value} (h : k40.K w x cs) : k40.M w1 base ok x cs := by
 obtain rfl := k40_open h
 exact k40_mkM _ _ _ x
theorem rd_get (l : List S40) (j : Nat) (h : j < l.length) : l[j]? = some (rd_T40 l (j : Int)) := by
 unfold rd_T40
 rw [Int.toNat_natCast, List.getD_eq_getElem?_getD, List.getElem?_eq_getElem h]
 rfl
set_option maxHeartbeats 4000000 in
set_option maxRecDepth 100000 in
theorem cloneC_any (A : Option Addr) (c : Nat) (l : List S40) (w : World) (hC : Kd.C k40 w A l.length l) (hlen : l.length < 8796093022208) :
 Calls Tryz.prog 52 #[.slice A l.length c] w fun r w' => ∃ v, r = .returned v ∧ Kd.R k40 40 w' w.heap.size (fun _ => True) v l ∧ Below w.heap.size w w' := by
 have HB := aS (Below.refl w.heap.size w)
 rcases A with _ | ad
 ·have hl0 : l = [] := by
   rcases Nat.eq_zero_or_pos l.length with h | h
   ·exact List.eq_nil_of_length_eq_zero h
   ·obtain ⟨ad, h', _⟩ := hC.2.2 h; cases h'
  have hq := Lib.run_eql_slice_nil (P := Tryz.prog) w 41 40 none l.length c 0 0 Tryz.underlying41
  have HL := aS hl0
  clear hC hl0
  simp at hq
  go_enter Tryz.func52, Tryz.ntmps52
  go_wp2
  go_ret
  exact ⟨_, rfl, by rw [HL.out]; exact Kd.R_nil _ _ _ _ _, Below.refl _ _⟩
 ·have hq := Lib.run_eql_slice_nil (P := Tryz.prog) w 41 40 (some ad) l.length c 0 0 Tryz.underlying41
  simp at hq
  have HC := aS hC
  clear hC
  have HO := aS (R_lit0 k40 (W := w) w.heap.size 40 (xs := []) (inner := []) (ok := fun _ => True) (okp := fun _ => False) (Reps.none _ _) (fun _ h => h.elim) trivial (Nat.le_refl _) (by simp) (fun _ h => h.elim))
  go_enter Tryz.func52, Tryz.ntmps52
  go_wp2_with (first | (at_builtin; refine Kd.R_append_rows k40 (w0 := w) w.heap.size rfl (.tmp 5) (.tmp 6) 41 40 (.agg #[(.int .i32 0), (.int .i32 0), (.int .i32 0), (.int .u8 0), (.int .u8 0), (.int .u8 0), (.int .u8 0)]) 16 rfl Tryz.underlying41 infoC rfl (by decide) (by omega) _ ([] : List S40) l _ _ _ (fun _ => True) (fun _ => False) rfl rfl ?aO ?aR (fun _ _ h => h) (fun _ h => h.elim) (fun _ _ => trivial) ?aB ?aS ?aL ?_; (case aO => exact HO.out); (case aR => exact Kd.C_alloc HC.out _); (case aB => exact bB); (case aS => simp); (case aL => simp; omega); intro vq wq ho hb hg hat; have HX := aS (And.intro ho hb); clear ho hb hg hat))
  go_ret
  exact ⟨_, rfl, HX.out.1, HX.out.2⟩
def cell_Cell_52.f (l0 : List (S40)) : Option ((List (S40))) := if l0.length < 8796093022208 then some l0 else none
theorem cell_Cell_52.calls (A0 : Option Addr) (c0 : Nat) (l0 : List (S40)) (r : List (S40)) (w : World) (hr0 : Kd.C k40 w A0 l0.length l0) (hc0 : l0.length ≤ c0) (h : cell_Cell_52.f l0 = some r) :
 Calls Tryz.prog 52 #[.slice A0 l0.length c0] w fun e w' => ∃ v0_ : Value, e = .returned (v0_) ∧ Kd.R k40 40 w' w.heap.size (fun _ => True) v0_ r ∧ Below w.heap.size w w' := by
 unfold cell_Cell_52.f at h
 by_cases hb : l0.length < 8796093022208
 ·rw [if_pos hb] at h
  obtain rfl := Option.some.inj h
  exact cloneC_any A0 c0 l0 w hr0 hb
 ·rw [if_neg hb] at h; cases h
def utf_Scalar.f (a0 : Int) : Option (Bool) := if a0 ≥ 0 then (if a0 < 55296 then (some true) else (if a0 > 57343 then (some (decide (a0 ≤ 1114111))) else (some false))) else (if a0 > 57343 then (some (decide (a0 ≤ 1114111))) else (some false))
def width_Of.f (a0 : Int) : Option (Int) := some (wOf a0)
theorem width_Of.calls (a0 : Int) (r : Int) (w : World) (h : width_Of.f a0 = some r) :
 Calls Tryz.prog 55 #[.int .i32 a0] w fun e w' => e = .returned (.int .i64 r) ∧ Below w.heap.size w w' := by
 obtain rfl := Option.some.inj h
 exact Of_any a0 w
def pen_Right.f (a0_0 : Int) (a0_1 : Int) (a0_2 : Int) : Option (Bool) := if a0_0 < 32 then (if a0_1 < 17 then (some (decide (a0_2 < 17))) else (some false)) else (some false)
set_option maxHeartbeats 8000000 in
set_option maxRecDepth 100000 in
theorem pen_Right.calls (a0_0 : Int) (a0_1 : Int) (a0_2 : Int) (r : Bool) (w : World) (h : pen_Right.f a0_0 a0_1 a0_2 = some r) :
 Calls Tryz.prog 59 #[.agg #[.int .u8 a0_0, .int .u8 a0_1, .int .u8 a0_2]] w fun e w' => e = .returned (.bool r) ∧ Below w.heap.size w w' := by
 have hu38 := Tryz.underlying38
 have HB := aS (Below.refl w.heap.size w)
 have H : (if a0_0 < 32 then (if a0_1 < 17 then (some (decide (a0_2 < 17))) else (some false)) else (some false)) = some r := h
 clear h
 by_cases c2 : a0_0 < 32
 ·rw [if_pos c2] at H
  have c2b0 : decide (a0_0 < 32) = true := decide_eq_true c2
  clear c2
  by_cases c3 : a0_1 < 17
  ·rw [if_pos c3] at H
   have c3b0 : decide (a0_1 < 17) = true := decide_eq_true c3
   clear c3
   obtain rfl := Option.some.inj H
   go_enter Tryz.func59, Tryz.ntmps59
   go_wp2_with (first | (refine bx 1 #[.int .u8 a0_0, .int .u8 a0_1, .int .u8 a0_2] 38 ?_; intro gb107 hg w4 hbox hb; have BK107 := aS (hbox); have GW107 := aS (gw HB hg); have GE107 := aS (gw HB hg); replace HB := aS (below_step bB hb); clear hb hbox hg; have hz5 := cel3 BK107.out))
   go_ret
   exact ⟨by first | rfl | (simp <;> rfl) | (simp [*] <;> rfl), bS⟩
  ·rw [if_neg c3] at H
   have c3b0 : decide (a0_1 < 17) = false := decide_eq_false c3
   clear c3
   obtain rfl := Option.some.inj H
   go_enter Tryz.func59, Tryz.ntmps59
   go_wp2_with (first | (refine bx 1 #[.int .u8 a0_0, .int .u8 a0_1, .int .u8 a0_2] 38 ?_; intro gb107 hg w6 hbox hb; have BK107 := aS (hbox); have GW107 := aS (gw HB hg); have GE107 := aS (gw HB hg); replace HB := aS (below_step bB hb); clear hb hbox hg; have hz7 := cel3 BK107.out))
   go_ret
   exact ⟨by first | rfl | (simp <;> rfl) | (simp [*] <;> rfl), bS⟩
 ·rw [if_neg c2] at H
  have c2b0 : decide (a0_0 < 32) = false := decide_eq_false c2
  clear c2
  obtain rfl := Option.some.inj H
  go_enter Tryz.func59, Tryz.ntmps59
  go_wp2_with (first | (refine bx 1 #[.int .u8 a0_0, .int .u8 a0_1, .int .u8 a0_2] 38 ?_; intro gb107 hg w8 hbox hb; have BK107 := aS (hbox); have GW107 := aS (gw HB hg); have GE107 := aS (gw HB hg); replace HB := aS (below_step bB hb); clear hb hbox hg; have hz9 := cel3 BK107.out))
  go_ret
  exact ⟨by first | rfl | (simp <;> rfl) | (simp [*] <;> rfl), bS⟩
def cell_Rest.f (a0_0 : Int) (a0_1 : Int) (a0_2 : Int) (a0_3 : Int) (a0_4 : Int) (a0_5 : Int) (a0_6 : Int) : Option (Int × Int × Int × Int × Int × Int × Int) := some (0, 0, 0, 0, a0_4, a0_5, a0_6)
set_option maxHeartbeats 8000000 in
set_option maxRecDepth 100000 in
theorem cell_Rest.calls (a0_0 : Int) (a0_1 : Int) (a0_2 : Int) (a0_3 : Int) (a0_4 : Int) (a0_5 : Int) (a0_6 : Int) (r1 : Int) (r2 : Int) (r3 : Int) (r4 : Int) (r5 : Int) (r6 : Int) (r7 : Int) (w : World) (h : cell_Rest.f a0_0 a0_1 a0_2 a0_3 a0_4 a0_5 a0_6 = some (r1, r2, r3, r4, r5, r6, r7)) :
 Calls Tryz.prog 91 #[.agg #[.int .i32 a0_0, .int .i32 a0_1, .int .i32 a0_2, .int .u8 a0_3, .int .u8 a0_4, .int .u8 a0_5, .int .u8 a0_6]] w fun e w' => e = .returned (.agg #[.int .i32 r1, .int .i32 r2, .int .i32 r3, .int .u8 r4, .int .u8 r5, .int .u8 r6, .int .u8 r7]) ∧ Below w.heap.size w w' := by
 have hu40 := Tryz.underlying40
 have hu38 := Tryz.underlying38
 have HB := aS (Below.refl w.heap.size w)
 have H : (some (0, 0, 0, 0, a0_4, a0_5, a0_6)) = some (r1, r2, r3, r4, r5, r6, r7) := h
 clear h
 simp only [Option.some.injEq, Prod.mk.injEq] at H
 obtain ⟨rfl, rfl, rfl, rfl, rfl, rfl, rfl⟩ := H
 go_enter Tryz.func91, Tryz.ntmps91
 go_wp2_with (first | (refine bx 1 #[.int .i32 a0_0, .int .i32 a0_1, .int .i32 a0_2, .int .u8 a0_3, .int .u8 a0_4, .int .u8 a0_5, .int .u8 a0_6] 40 ?_; intro gb108 hg w2 hbox hb; have BK108 := aS (hbox); have GW108 := aS (gw HB hg); have GE108 := aS (gw HB hg); replace HB := aS (below_step bB hb); clear hb hbox hg) | (refine bx 2 #[.int .i32 0, .int .i32 0, .int .i32 0, .int .u8 0, .int .u8 0, .int .u8 0, .int .u8 0] 40 ?_; intro gb109 hg w3 hbox hb; have BK109 := aS (hbox); have GW109 := aS (gw HB hg); have GE109 := aS (gw HB hg); replace HB := aS (below_step bS hb); have NB108_109 := aS ((by rw [hg]; exact Nat.ne_of_lt (blk_lt (kb BK108)) : gb108 ≠ gb109)); have NB109_108 := aS ((by rw [hg]; exact Nat.ne_of_gt (blk_lt (kb BK108)) : gb109 ≠ gb108)); replace BK108 := aS (blk_below (kb BK108) hb); clear hb hbox hg; have hnb4 := NB108_109.out; have hnc4 := NB109_108.out; have hz5 := cel7 BK108.out; have hz6 := cel7 BK109.out))
 refine bodyPost_ret (results_cell_row rfl _ _ gb109 40 #[.int .i32 0, .int .i32 0, .int .i32 0, .int .u8 0, .int .u8 a0_4, .int .u8 a0_5, .int .u8 a0_6] (0, 0) _ rfl (kp BK109) Tryz.underlying40 rfl (by kernel_rfl)) rfl ?_
 exact ⟨by first | rfl | (simp <;> rfl) | (simp [*] <;> rfl), bS⟩
def cell_Right.f (a0_0 : Int) (a0_1 : Int) (a0_2 : Int) (a0_3 : Int) (a0_4 : Int) (a0_5 : Int) (a0_6 : Int) : Option (Bool) := if 0 ≤ a0_3 ∧ a0_3 ≤ 255 then some (rightC a0_0 a0_1 a0_2 a0_3 a0_4 a0_5 a0_6) else none
theorem cell_Right.calls (a0_0 : Int) (a0_1 : Int) (a0_2 : Int) (a0_3 : Int) (a0_4 : Int) (a0_5 : Int) (a0_6 : Int) (r : Bool) (w : World) (h : cell_Right.f a0_0 a0_1 a0_2 a0_3 a0_4 a0_5 a0_6 = some r) :
 Calls Tryz.prog 82 #[.agg #[.int .i32 a0_0, .int .i32 a0_1, .int .i32 a0_2, .int .u8 a0_3, .int .u8 a0_4, .int .u8 a0_5, .int .u8 a0_6]] w fun e w' => e = .returned (.bool r) ∧ Below w.heap.size w w' := by
 have hPen : ∀ (a b c : Int) (w : World), Calls Tryz.prog 59 #[.agg #[.int .u8 a, .int .u8 b, .int .u8 c]] w fun e w' => e = .returned (.bool (penR a b c)) ∧ Below w.heap.size w w' := fun a b c w =>
  pen_Right.calls a b c (penR a b c) w (by
   unfold pen_Right.f penR
   by_cases h1 : a < 32 <;> by_cases h2 : b < 17 <;> simp [h1, h2])
 unfold cell_Right.f at h
 by_cases h8 : 0 ≤ a0_3 ∧ a0_3 ≤ 255
 ·rw [if_pos h8] at h
  obtain rfl := Option.some.inj h
  exact right_walk hPen (fun c0 c1 c2 c3 c4 c5 c6 w => cell_Rest.calls c0 c1 c2 c3 c4 c5 c6 _ _ _ _ _ _ _ w rfl) _ _ _ _ _ _ _ h8 w
 ·rw [if_neg h8] at h
  cases h
def cell_Blank.f (a0_0 : Int) (a0_1 : Int) (a0_2 : Int) : Option (Int × Int × Int × Int × Int × Int × Int) := some (32, 0, 0, 1, a0_0, a0_1, a0_2)
set_option maxHeartbeats 8000000 in
set_option maxRecDepth 100000 in
theorem cell_Blank.calls (a0_0 : Int) (a0_1 : Int) (a0_2 : Int) (r1 : Int) (r2 : Int) (r3 : Int) (r4 : Int) (r5 : Int) (r6 : Int) (r7 : Int) (w : World) (h : cell_Blank.f a0_0 a0_1 a0_2 = some (r1, r2, r3, r4, r5, r6, r7)) :
 Calls Tryz.prog 62 #[.agg #[.int .u8 a0_0, .int .u8 a0_1, .int .u8 a0_2]] w fun e w' => e = .returned (.agg #[.int .i32 r1, .int .i32 r2, .int .i32 r3, .int .u8 r4, .int .u8 r5, .int .u8 r6, .int .u8 r7]) ∧ Below w.heap.size w w' := by
 have hu38 := Tryz.underlying38
 have hu40 := Tryz.underlying40
 have HB := aS (Below.refl w.heap.size w)
 have H : (some (32, 0, 0, 1, a0_0, a0_1, a0_2)) = some (r1, r2, r3, r4, r5, r6, r7) := h
 clear h
 simp only [Option.some.injEq, Prod.mk.injEq] at H
 obtain ⟨rfl, rfl, rfl, rfl, rfl, rfl, rfl⟩ := H
 go_enter Tryz.func62, Tryz.ntmps62
 go_wp2_with (first | (refine bx 1 #[.int .u8 a0_0, .int .u8 a0_1, .int .u8 a0_2] 38 ?_; intro gb113 hg w2 hbox hb; have BK113 := aS (hbox); have GW113 := aS (gw HB hg); have GE113 := aS (gw HB hg); replace HB := aS (below_step bB hb); clear hb hbox hg) | (refine bx 2 #[.int .i32 0, .int .i32 0, .int .i32 0, .int .u8 0, .int .u8 0, .int .u8 0, .int .u8 0] 40 ?_; intro gb114 hg w3 hbox hb; have BK114 := aS (hbox); have GW114 := aS (gw HB hg); have GE114 := aS (gw HB hg); replace HB := aS (below_step bS hb); have NB113_114 := aS ((by rw [hg]; exact Nat.ne_of_lt (blk_lt (kb BK113)) : gb113 ≠ gb114)); have NB114_113 := aS ((by rw [hg]; exact Nat.ne_of_gt (blk_lt (kb BK113)) : gb114 ≠ gb113)); replace BK113 := aS (blk_below (kb BK113) hb); clear hb hbox hg; have hnb4 := NB113_114.out; have hnc4 := NB114_113.out; have hz5 := cel3 BK113.out; have hz6 := cel7 BK114.out))
 refine bodyPost_ret (results_cell_row rfl _ _ gb114 40 #[.int .i32 32, .int .i32 0, .int .i32 0, .int .u8 1, .int .u8 a0_0, .int .u8 a0_1, .int .u8 a0_2] (0, 0) _ rfl (kp BK114) Tryz.underlying40 rfl (by kernel_rfl)) rfl ?_
 exact ⟨by first | rfl | (simp <;> rfl) | (simp [*] <;> rfl), bS⟩
set_option maxHeartbeats 4000000 in
set_option maxRecDepth 100000 in
theorem alone_any (A : Option Addr) (c : Nat) (l : List S40) (i : Int) (b : Bool) (w : World) (hC : Kd.C k40 w A l.length l) (hb : aloneC l i = b) :
 Calls Tryz.prog 83 #[.slice A l.length c, .int .i64 i] w fun e w' => e = .returned (.bool b) ∧ Below w.heap.size w w' := by
 have hmf : ∀ (fn : Fn) (first cap : Array Value) (w : World), (Instr.makeFunc fn first cap).run Tryz.prog w = .ok (.func fn first cap) w := fun _ _ _ _ => rfl
 obtain ⟨b1, h1⟩ : ∃ x, isW l i 2 = x := ⟨_, rfl⟩
 obtain ⟨b2, h2⟩ : ∃ x, isW l (wrap64 (i + 1)) 0 = x := ⟨_, rfl⟩
 obtain ⟨b3, h3⟩ : ∃ x, isW l i 0 = x := ⟨_, rfl⟩
 obtain ⟨b4, h4⟩ : ∃ x, isW l (wrap64 (i - 1)) 2 = x := ⟨_, rfl⟩
 have HB := aS (show b = ((b1 && !b2) || (b3 && !b4)) by rw [← hb, aloneC, h1, h2, h3, h4])
 have H1 := aS h1
 have H2 := aS h2
 have H3 := aS h3
 have H4 := aS h4
 have HC := aS (Kd.C_alloc hC (.cells #[.slice A l.length c] 41))
 have HG := aS (show (w.alloc (.cells #[.slice A l.length c] 41)).cell? ⟨w.heap.size, 0, none⟩ = some (.slice A l.length c) by simp)
 clear h1 h2 h3 h4 hb hC
 have hw : (b1 = false ∧ b3 = false) ∨ (b1 = false ∧ b3 = true ∧ b4 = false) ∨ (b1 = false ∧ b3 = true ∧ b4 = true) ∨ (b1 = true ∧ b2 = false) ∨ (b1 = true ∧ b2 = true ∧ b3 = false) ∨ (b1 = true ∧ b2 = true ∧ b3 = true ∧ b4 = false) ∨ (b1 = true ∧ b2 = true ∧ b3 = true ∧ b4 = true) := by cases b1 <;> cases b2 <;> cases b3 <;> cases b4 <;> simp
 rcases hw with ⟨rfl, rfl⟩ | ⟨rfl, rfl, rfl⟩ | ⟨rfl, rfl, rfl⟩ | ⟨rfl, rfl⟩ | ⟨rfl, rfl, rfl⟩ | ⟨rfl, rfl, rfl, rfl⟩ | ⟨rfl, rfl, rfl, rfl⟩ <;> (go_enter Tryz.func83, Tryz.ntmps83; go_wp2_with (first | (go_at_call 104; (with_reducible refine (is_any w.heap.size A c l i 2 _ _ HG.out HC.out H1.out).mono ?_); rintro e w1 ⟨rfl, rfl⟩) | (go_at_call 104; (with_reducible refine (is_any w.heap.size A c l (wrap64 (i + 1)) 0 _ _ HG.out HC.out H2.out).mono ?_); rintro e w1 ⟨rfl, rfl⟩) | (go_at_call 104; (with_reducible refine (is_any w.heap.size A c l i 0 _ _ HG.out HC.out H3.out).mono ?_); rintro e w1 ⟨rfl, rfl⟩) | (go_at_call 104; (with_reducible refine (is_any w.heap.size A c l (wrap64 (i - 1)) 2 _ _ HG.out HC.out H4.out).mono ?_); rintro e w1 ⟨rfl, rfl⟩)); go_ret; exact ⟨by rw [HB.out]; (first | rfl | simp), (by repeat (first | exact Below.refl _ _ | apply lA | apply lN | apply lD | (refine Below.setCell ?_ (by simp) _)))⟩)
def line_alone.f (l0 : List (S40)) (a1 : Int) : Option (Bool) := some (aloneC l0 a1)
abbrev CS := S40
def hasW (l : List CS) (k : Nat) (v : Int) : Bool := match l[k]? with | some x => decide (x.f2 = v) | none => false
def aloneN (l : List CS) (i : Nat) : Bool := (hasW l i 2 && !hasW l (i + 1) 0) || (hasW l i 0 && !(decide (0 < i) && hasW l (i - 1) 2))
theorem isW_nat (l : List CS) (k : Nat) (v : Int) : isW l (k : Int) v = hasW l k v := by
 unfold isW hasW
 by_cases h : k < l.length
 ·rw [rd_get l k h]
  simp [h]
 ·rw [List.getElem?_eq_none (by omega)]
  simp [h]
theorem isW_neg (l : List CS) (k v : Int) (h : k < 0) : isW l k v = false := by unfold isW; simp [show ¬ 0 ≤ k by omega]
theorem alone_nat (l : List CS) (i : Nat) (h : i ≤ 1000000) : aloneC l (i : Int) = aloneN l i := by
 unfold aloneC aloneN
 rw [show wrap64 ((i : Int) + 1) = ((i + 1 : Nat) : Int) by unfold wrap64; omega, show wrap64 ((i : Int) - 1) = (i : Int) - 1 by unfold wrap64; omega, isW_nat, isW_nat, isW_nat]
 by_cases h0 : 0 < i
 ·rw [show (i : Int) - 1 = ((i - 1 : Nat) : Int) by omega, isW_nat]; simp [h0]
 ·rw [isW_neg l _ 2 (by omega)]; simp [h0]
def rightS (x : CS) : Bool := rightC x.f0 x.f1.f0 x.f1.f1 x.f2 x.f3.f0 x.f3.f1 x.f3.f2
def penEq (x y : CS) : Bool := (x.f3.f0 == y.f3.f0) && ((x.f3.f1 == y.f3.f1) && (x.f3.f2 == y.f3.f2))
def okR (l : List CS) (i : Nat) : Bool := match l[i]? with
 | some x => rightS x && (!aloneN l i && (decide (x.f2 ≠ 0) || match l[i - 1]? with | some y => penEq y x | none => false))
 | none => true
def rightFrom (l : List CS) : Nat → Nat → Bool
 | 0, _ => true
 | d + 1, i => okR l i && rightFrom l d (i + 1)
def rightL (l : List CS) : Bool := rightFrom l l.length 0
structure BoxH (g : Nat) (x : CS) (w : World) : Prop where
 all : w.cell? ⟨g, 0, none⟩ = some (.int .i32 x.f0) ∧ w.cell? ⟨g, 1, none⟩ = some (.int .i32 x.f1.f0) ∧ w.cell? ⟨g, 2, none⟩ = some (.int .i32 x.f1.f1) ∧ w.cell? ⟨g, 3, none⟩ = some (.int .u8 x.f2) ∧ w.cell? ⟨g, 4, none⟩ = some (.int .u8 x.f3.f0) ∧ w.cell? ⟨g, 5, none⟩ = some (.int .u8 x.f3.f1) ∧ w.cell? ⟨g, 6, none⟩ = some (.int .u8 x.f3.f2)
theorem BoxH.held {g : Nat} {x : CS} {w w1 : World} (h : BoxH g x w) (hb : Below w.heap.size w w1) : w1.cell? ⟨g, 0, none⟩ = some (.int .i32 x.f0) ∧ w1.cell? ⟨g, 1, none⟩ = some (.int .i32 x.f1.f0) ∧ w1.cell? ⟨g, 2, none⟩ = some (.int .i32 x.f1.f1) ∧ w1.cell? ⟨g, 3, none⟩ = some (.int .u8 x.f2) ∧ w1.cell? ⟨g, 4, none⟩ = some (.int .u8 x.f3.f0) ∧ w1.cell? ⟨g, 5, none⟩ = some (.int .u8 x.f3.f1) ∧ w1.cell? ⟨g, 6, none⟩ = some (.int .u8 x.f3.f2) := by
 obtain ⟨⟨h0, h1, h2, h3, h4, h5, h6⟩⟩ := h
 have hl := World.block_lt_of_cell? w _ h0
 have k : ∀ o, w1.cell? ⟨g, o, none⟩ = w.cell? ⟨g, o, none⟩ := fun o => hb.cell (p := ⟨g, o, none⟩) hl
 simp only [k]
 exact ⟨h0, h1, h2, h3, h4, h5, h6⟩
theorem boxH_new (w : World) (x : CS) (T : Nat) : BoxH w.heap.size x (w.alloc (.cells #[.int .i32 x.f0, .int .i32 x.f1.f0, .int .i32 x.f1.f1, .int .u8 x.f2, .int .u8 x.f3.f0, .int .u8 x.f3.f1, .int .u8 x.f3.f2] T)) := by
 constructor; simp
theorem okR_of {l : List CS} {i : Nat} {x : CS} (h : l[i]? = some x) : okR l i = (rightS x && (!aloneN l i && (decide (x.f2 ≠ 0) || match l[i - 1]? with | some y => penEq y x | none => false))) := by
 unfold okR; rw [h]
theorem rightFrom_step {l : List CS} {i : Nat} {b : Bool} (h : i < l.length) (hz : b = rightFrom l (l.length - i) i) : b = (okR l i && rightFrom l (l.length - (i + 1)) (i + 1)) := by
 rw [hz, show l.length - i = (l.length - (i + 1)) + 1 by omega, rightFrom]
attribute [local go_sem high] eqPen
set_option maxHeartbeats 4000000 in
set_option maxRecDepth 100000 in
theorem right_any (hCR : ∀ (x : CS) (w : World), 0 ≤ x.f2 ∧ x.f2 ≤ 255 → Calls Tryz.prog 82 #[.agg #[.int .i32 x.f0, .int .i32 x.f1.f0, .int .i32 x.f1.f1, .int .u8 x.f2, .int .u8 x.f3.f0, .int .u8 x.f3.f1, .int .u8 x.f3.f2]] w fun e w' => e = .returned (.bool (rightS x)) ∧ Below w.heap.size w w')
 (A : Option Addr) (c : Nat) (l : List CS) (w : World) (hC : Kd.C k40 w A l.length l) (h8 : ∀ x ∈ l, 0 ≤ x.f2 ∧ x.f2 ≤ 255) (hl : l.length ≤ 1000000) :
 Calls Tryz.prog 49 #[.slice A l.length c] w fun e w' => e = .returned (.bool (rightL l)) ∧ Below w.heap.size w w' := by
 have hub := Tryz.underlying40
 have hup := Tryz.underlying38
 obtain ⟨res, hres⟩ : ∃ b, rightL l = b := ⟨_, rfl⟩
 rw [hres]
 have HCR := aS hCR
 have HC := aS hC
 have H8 := aS h8
 have HZ0 := aS (show res = rightFrom l (l.length - 0) 0 by rw [← hres]; rfl)
 clear hCR hC h8 hres
 go_enter Tryz.func49, Tryz.ntmps49
 go_wp2
 go_loopg [7] (l.length + 1) (fun kq v7 w' => ∃ i : Nat, v7 = .int .i64 i ∧ i ≤ l.length ∧ Aside0 (kq = l.length + 1 - i) ∧ Aside0 (res = rightFrom l (l.length - i) i) ∧ Aside0 (Below w.heap.size w w'))
 case atStart => exact ⟨0, rfl, by omega, ⟨rfl⟩, HZ0, ⟨Below.refl _ _⟩⟩
 case round =>
  clear HZ0
  obtain ⟨i, rfl, hi, HK, HZ, HB⟩ := hrel
  by_cases hlt : i < l.length
  ·obtain ⟨ad, rfl, c0, c1, c2, c3, c4, c5, c6⟩ := at_T40 (Kd.C_below HC.out HB.out) (i : Int) (by omega) (by omega)
   have HX8 := aS (H8.out _ (List.mem_of_getElem? (rd_get l i hlt)))
   have HOK := aS (okR_of (rd_get l i hlt))
   have HST := aS (rightFrom_step hlt HZ.out)
   have HAL := aS (alone_nat l i (by omega))
   obtain ⟨x, hx⟩ : ∃ x, rd_T40 l (i : Int) = x := ⟨_, rfl⟩
   rw [hx] at c0 c1 c2 c3 c4 c5 c6 HX8 HOK
   have HXE := aS hx
   simp only [Int.toNat_natCast] at c0 c1 c2 c3 c4 c5 c6
   obtain ⟨b1, hb1⟩ : ∃ b, rightS x = b := ⟨_, rfl⟩
   obtain ⟨b2, hb2⟩ : ∃ b, aloneN l i = b := ⟨_, rfl⟩
   have H1 := aS hb1
   have H2 := aS hb2
   have HA := aS (HAL.out.trans hb2)
   have HCC := aS (show Kd.C k40 wr (some ad) l.length l from Kd.C_below HC.out HB.out)
   clear hb1 hb2 hx HAL HZ
   have BX := aS (boxH_new wr x 40)
   cases b1
   case false =>
    have HR := aS (show res = false by rw [HST.out, HOK.out, H1.out]; rfl)
    go_wp2
    refine start_ (n := 24) (S := fun w' => w'.cell? ⟨wr.heap.size, 0, none⟩ = some (.int .i32 x.f0) ∧ w'.cell? ⟨wr.heap.size, 1, none⟩ = some (.int .i32 x.f1.f0) ∧ w'.cell? ⟨wr.heap.size, 2, none⟩ = some (.int .i32 x.f1.f1) ∧ w'.cell? ⟨wr.heap.size, 3, none⟩ = some (.int .u8 x.f2) ∧ w'.cell? ⟨wr.heap.size, 4, none⟩ = some (.int .u8 x.f3.f0) ∧ w'.cell? ⟨wr.heap.size, 5, none⟩ = some (.int .u8 x.f3.f1) ∧ w'.cell? ⟨wr.heap.size, 6, none⟩ = some (.int .u8 x.f3.f2)) (ds := []) (tb 24 0) (by kernel_rfl) rfl rfl ⟨BX.out.all.1, BX.out.all.2.1, BX.out.all.2.2.1, BX.out.all.2.2.2.1, BX.out.all.2.2.2.2.1, BX.out.all.2.2.2.2.2.1, BX.out.all.2.2.2.2.2.2⟩ (fun hHeld => ?_)
    refine tK 0 (some 12) (tb 24 1) ?_
    refine sO 1 (some 13) (tb 24 3) (fun K hK => ?_)
    refine gO Tryz.func82 #[.agg #[.int .i32 x.f0, .int .i32 x.f1.f0, .int .i32 x.f1.f1, .int .u8 x.f2, .int .u8 x.f3.f0, .int .u8 x.f3.f1, .int .u8 x.f3.f2]] ?_
    with_reducible refine (HCR.out x _ HX8.out).mono ?_
    rintro e w2 ⟨rfl, hb⟩
    refine ⟨_, rfl, ?_⟩
    rw [H1.out]
    have HD := aS hb
    clear hb
    have QD := aS (BX.out.held (below_step (by repeat (first | exact Below.refl _ _ | apply lA | apply lN | apply lD | (refine Below.setCell ?_ (by simp) _))) HD.out))
    refine hK.out _ _ ⟨QD.out.1, QD.out.2.1, QD.out.2.2.1, QD.out.2.2.2.1, QD.out.2.2.2.2.1, QD.out.2.2.2.2.2.1, QD.out.2.2.2.2.2.2⟩ (fun hHeld => ?_)
    clear hK K
    refine nm ?_
    refine tP 2 (some 14) (tb 24 7) ?_
    refine tP 3 (some 15) (tb 24 15) ?_
    refine tU 4 (some 16) (tb 24 31) ?_
    refine tU 5 (some 17) (tb 24 63) ?_
    refine tU 6 (some 18) (tb 24 127) ?_
    refine tP 7 (some 19) (tb 24 255) ?_
    refine tP 8 (some 20) (tb 24 511) ?_
    refine tU 9 (some 21) (tb 24 1023) ?_
    refine tU 10 (some 22) (tb 24 2047) ?_
    refine tU 11 (some 23) (tb 24 4095) ?_
    refine tU 12 (some 24) (tb 24 8191) ?_
    refine tU 13 (some 25) (tb 24 16383) ?_
    refine tU 14 (some 26) (tb 24 32767) ?_
    refine tU 15 (some 27) (tb 24 65535) ?_
    refine tU 16 (some 28) (tb 24 131071) ?_
    refine tU 17 (some 29) (tb 24 262143) ?_
    refine tU 18 (some 30) (tb 24 524287) ?_
    refine tU 19 (some 31) (tb 24 1048575) ?_
    refine tU 20 (some 32) (tb 24 2097151) ?_
    refine tU 21 (some 33) (tb 24 4194303) ?_
    refine tU 22 (some 34) (tb 24 8388607) ?_
    refine tP 23 (some 35) (tb 24 16777215) ?_
    refine done_ (by kernel_rfl) ?_
    all_goals go_wp2
    all_goals go_ret
    all_goals exact ⟨by rw [HR.out]; rfl, below_then HB.out (Below.size HB.out) (below_step (below_alloc (Below.refl _ _) _) (below_step (by repeat (first | exact Below.refl _ _ | apply lA | apply lN | apply lD | (refine Below.setCell ?_ (by simp) _))) HD.out))⟩
   case true =>
    cases b2
    case true =>
     have HR := aS (show res = false by rw [HST.out, HOK.out, H1.out, H2.out]; rfl)
     go_wp2
     refine start_ (n := 24) (S := fun w' => w'.cell? ⟨wr.heap.size, 0, none⟩ = some (.int .i32 x.f0) ∧ w'.cell? ⟨wr.heap.size, 1, none⟩ = some (.int .i32 x.f1.f0) ∧ w'.cell? ⟨wr.heap.size, 2, none⟩ = some (.int .i32 x.f1.f1) ∧ w'.cell? ⟨wr.heap.size, 3, none⟩ = some (.int .u8 x.f2) ∧ w'.cell? ⟨wr.heap.size, 4, none⟩ = some (.int .u8 x.f3.f0) ∧ w'.cell? ⟨wr.heap.size, 5, none⟩ = some (.int .u8 x.f3.f1) ∧ w'.cell? ⟨wr.heap.size, 6, none⟩ = some (.int .u8 x.f3.f2)) (ds := []) (tb 24 0) (by kernel_rfl) rfl rfl ⟨BX.out.all.1, BX.out.all.2.1, BX.out.all.2.2.1, BX.out.all.2.2.2.1, BX.out.all.2.2.2.2.1, BX.out.all.2.2.2.2.2.1, BX.out.all.2.2.2.2.2.2⟩ (fun hHeld => ?_)
     refine tK 0 (some 12) (tb 24 1) ?_
     refine sO 1 (some 13) (tb 24 3) (fun K hK => ?_)
     refine gO Tryz.func82 #[.agg #[.int .i32 x.f0, .int .i32 x.f1.f0, .int .i32 x.f1.f1, .int .u8 x.f2, .int .u8 x.f3.f0, .int .u8 x.f3.f1, .int .u8 x.f3.f2]] ?_
     with_reducible refine (HCR.out x _ HX8.out).mono ?_
     rintro e w2 ⟨rfl, hb⟩
     refine ⟨_, rfl, ?_⟩
     rw [H1.out]
     have HD := aS hb
     clear hb
     have QD := aS (BX.out.held (below_step (by repeat (first | exact Below.refl _ _ | apply lA | apply lN | apply lD | (refine Below.setCell ?_ (by simp) _))) HD.out))
     refine hK.out _ _ ⟨QD.out.1, QD.out.2.1, QD.out.2.2.1, QD.out.2.2.2.1, QD.out.2.2.2.2.1, QD.out.2.2.2.2.2.1, QD.out.2.2.2.2.2.2⟩ (fun hHeld => ?_)
     clear hK K
     refine nm ?_
     refine tP 2 (some 14) (tb 24 7) ?_
     refine tP 3 (some 15) (tb 24 15) ?_
     refine tP 4 (some 16) (tb 24 31) ?_
     refine tP 5 (some 17) (tb 24 63) ?_
     refine sO 6 (some 18) (tb 24 127) (fun K hK => ?_)
     refine gO Tryz.func83 #[.slice (some ad) l.length c, .int .i64 (i : Int)] ?_
     with_reducible refine (alone_any (some ad) c l (i : Int) true _ (Kd.C_below HCC.out (below_step (below_alloc (Below.refl _ _) _) (below_step (by repeat (first | exact Below.refl _ _ | apply lA | apply lN | apply lD | (refine Below.setCell ?_ (by simp) _))) HD.out))) HA.out).mono ?_
     rintro e w3 ⟨rfl, hb⟩
     refine ⟨_, rfl, ?_⟩
     have HE := aS hb
     clear hb
     have QE := aS (BX.out.held (below_step (below_step (by repeat (first | exact Below.refl _ _ | apply lA | apply lN | apply lD | (refine Below.setCell ?_ (by simp) _))) HD.out) HE.out))
     refine hK.out _ _ ⟨QE.out.1, QE.out.2.1, QE.out.2.2.1, QE.out.2.2.2.1, QE.out.2.2.2.2.1, QE.out.2.2.2.2.2.1, QE.out.2.2.2.2.2.2⟩ (fun hHeld => ?_)
     clear hK K
     refine nm ?_
     refine tP 7 (some 19) (tb 24 255) ?_
     refine tP 8 (some 20) (tb 24 511) ?_
     refine tU 9 (some 21) (tb 24 1023) ?_
     refine tU 10 (some 22) (tb 24 2047) ?_
     refine tU 11 (some 23) (tb 24 4095) ?_
     refine tU 12 (some 24) (tb 24 8191) ?_
     refine tU 13 (some 25) (tb 24 16383) ?_
     refine tU 14 (some 26) (tb 24 32767) ?_
     refine tU 15 (some 27) (tb 24 65535) ?_
     refine tU 16 (some 28) (tb 24 131071) ?_
     refine tU 17 (some 29) (tb 24 262143) ?_
     refine tU 18 (some 30) (tb 24 524287) ?_
     refine tU 19 (some 31) (tb 24 1048575) ?_
     refine tU 20 (some 32) (tb 24 2097151) ?_
     refine tU 21 (some 33) (tb 24 4194303) ?_
     refine tU 22 (some 34) (tb 24 8388607) ?_
     refine tP 23 (some 35) (tb 24 16777215) ?_
     refine done_ (by kernel_rfl) ?_
     all_goals go_wp2
     all_goals go_ret
     all_goals exact ⟨by rw [HR.out]; rfl, below_then HB.out (Below.size HB.out) (below_step (below_alloc (Below.refl _ _) _) (below_step (below_step (by repeat (first | exact Below.refl _ _ | apply lA | apply lN | apply lD | (refine Below.setCell ?_ (by simp) _))) HD.out) HE.out))⟩
    case false =>
     by_cases hw : x.f2 = 0
     ·have HW := aS hw
      clear hw
      have hi0 : 0 < i := by
       have h2 := H2.out
       have hww : hasW l i 0 = true := by unfold hasW; rw [rd_get l i hlt, HXE.out]; simp [HW.out]
       unfold aloneN at h2
       rw [hww] at h2
       by_cases e : 0 < i
       ·exact e
       ·simp [e] at h2
      obtain ⟨m, hm⟩ : ∃ m, m = i - 1 := ⟨_, rfl⟩
      have hml : m < l.length := by omega
      obtain ⟨ad2, e2, -, -, -, -, p4, p5, p6⟩ := at_T40 (Kd.C_alloc HCC.out (.cells #[.int .i32 x.f0, .int .i32 x.f1.f0, .int .i32 x.f1.f1, .int .u8 x.f2, .int .u8 x.f3.f0, .int .u8 x.f3.f1, .int .u8 x.f3.f2] 40)) (m : Int) (by omega) (by omega)
      injection e2 with e2
      subst e2
      have HG1 := aS (show l[i - 1]? = some (rd_T40 l (m : Int)) by rw [← hm]; exact rd_get l m hml)
      obtain ⟨y, hy⟩ : ∃ y, rd_T40 l (m : Int) = y := ⟨_, rfl⟩
      rw [hy] at p4 p5 p6 HG1
      simp only [Int.toNat_natCast] at p4 p5 p6
      have HM := aS (And.intro hm hi0)
      have HP0 := aS p4
      have HP1 := aS p5
      have HP2 := aS p6
      have hw0 : (x.f2 == 0) = true := by simpa using HW.out
      have hwr : wrap64 ((i : Int) - 1) = (m : Int) := by unfold wrap64; omega
      obtain ⟨b3, hb3⟩ : ∃ b, (y.f3.f0 == x.f3.f0 && (y.f3.f1 == x.f3.f1 && (y.f3.f2 == x.f3.f2))) = b := ⟨_, rfl⟩
      have HB3 := aS (show penEq y x = b3 by rw [← hb3]; rfl)
      clear hy p4 p5 p6
      clear hm hi0
      cases b3
      case false =>
       have HR := aS (show res = false by rw [HST.out, HOK.out, H1.out, H2.out, HG1.out]; simp [HW.out, HB3.out])
       go_wp2
       refine start_ (n := 24) (S := fun w' => w'.cell? ⟨wr.heap.size, 0, none⟩ = some (.int .i32 x.f0) ∧ w'.cell? ⟨wr.heap.size, 1, none⟩ = some (.int .i32 x.f1.f0) ∧ w'.cell? ⟨wr.heap.size, 2, none⟩ = some (.int .i32 x.f1.f1) ∧ w'.cell? ⟨wr.heap.size, 3, none⟩ = some (.int .u8 x.f2) ∧ w'.cell? ⟨wr.heap.size, 4, none⟩ = some (.int .u8 x.f3.f0) ∧ w'.cell? ⟨wr.heap.size, 5, none⟩ = some (.int .u8 x.f3.f1) ∧ w'.cell? ⟨wr.heap.size, 6, none⟩ = some (.int .u8 x.f3.f2) ∧ w'.cell? ⟨(ad.add (m * 7)).block, (ad.add (m * 7)).off + 4, none⟩ = some (.int .u8 y.f3.f0) ∧ w'.cell? ⟨(ad.add (m * 7)).block, (ad.add (m * 7)).off + 5, none⟩ = some (.int .u8 y.f3.f1) ∧ w'.cell? ⟨(ad.add (m * 7)).block, (ad.add (m * 7)).off + 6, none⟩ = some (.int .u8 y.f3.f2)) (ds := []) (tb 24 0) (by kernel_rfl) rfl rfl ⟨BX.out.all.1, BX.out.all.2.1, BX.out.all.2.2.1, BX.out.all.2.2.2.1, BX.out.all.2.2.2.2.1, BX.out.all.2.2.2.2.2.1, BX.out.all.2.2.2.2.2.2, HP0.out, HP1.out, HP2.out⟩ (fun hHeld => ?_)
       refine tK 0 (some 12) (tb 24 1) ?_
       refine sO 1 (some 13) (tb 24 3) (fun K hK => ?_)
       refine gO Tryz.func82 #[.agg #[.int .i32 x.f0, .int .i32 x.f1.f0, .int .i32 x.f1.f1, .int .u8 x.f2, .int .u8 x.f3.f0, .int .u8 x.f3.f1, .int .u8 x.f3.f2]] ?_
       with_reducible refine (HCR.out x _ HX8.out).mono ?_
       rintro e w2 ⟨rfl, hb⟩
       refine ⟨_, rfl, ?_⟩
       rw [H1.out]
       have HD := aS hb
       clear hb
       have QD := aS (BX.out.held (below_step (by repeat (first | exact Below.refl _ _ | apply lA | apply lN | apply lD | (refine Below.setCell ?_ (by simp) _))) HD.out))
       have PQD0 := aS (((below_step (by repeat (first | exact Below.refl _ _ | apply lA | apply lN | apply lD | (refine Below.setCell ?_ (by simp) _))) HD.out).cell (World.block_lt_of_cell? _ _ HP0.out)).trans HP0.out)
       have PQD1 := aS (((below_step (by repeat (first | exact Below.refl _ _ | apply lA | apply lN | apply lD | (refine Below.setCell ?_ (by simp) _))) HD.out).cell (World.block_lt_of_cell? _ _ HP1.out)).trans HP1.out)
       have PQD2 := aS (((below_step (by repeat (first | exact Below.refl _ _ | apply lA | apply lN | apply lD | (refine Below.setCell ?_ (by simp) _))) HD.out).cell (World.block_lt_of_cell? _ _ HP2.out)).trans HP2.out)
       refine hK.out _ _ ⟨QD.out.1, QD.out.2.1, QD.out.2.2.1, QD.out.2.2.2.1, QD.out.2.2.2.2.1, QD.out.2.2.2.2.2.1, QD.out.2.2.2.2.2.2, PQD0.out, PQD1.out, PQD2.out⟩ (fun hHeld => ?_)
       clear hK K
       refine nm ?_
       refine tP 2 (some 14) (tb 24 7) ?_
       refine tP 3 (some 15) (tb 24 15) ?_
       refine tP 4 (some 16) (tb 24 31) ?_
       refine tP 5 (some 17) (tb 24 63) ?_
       refine sO 6 (some 18) (tb 24 127) (fun K hK => ?_)
       refine gO Tryz.func83 #[.slice (some ad) l.length c, .int .i64 (i : Int)] ?_
       with_reducible refine (alone_any (some ad) c l (i : Int) false _ (Kd.C_below HCC.out (below_step (below_alloc (Below.refl _ _) _) (below_step (by repeat (first | exact Below.refl _ _ | apply lA | apply lN | apply lD | (refine Below.setCell ?_ (by simp) _))) HD.out))) HA.out).mono ?_
       rintro e w3 ⟨rfl, hb⟩
       refine ⟨_, rfl, ?_⟩
       have HE := aS hb
       clear hb
       have QE := aS (BX.out.held (below_step (below_step (by repeat (first | exact Below.refl _ _ | apply lA | apply lN | apply lD | (refine Below.setCell ?_ (by simp) _))) HD.out) HE.out))
       have PQE0 := aS (((below_step (below_step (by repeat (first | exact Below.refl _ _ | apply lA | apply lN | apply lD | (refine Below.setCell ?_ (by simp) _))) HD.out) HE.out).cell (World.block_lt_of_cell? _ _ HP0.out)).trans HP0.out)
       have PQE1 := aS (((below_step (below_step (by repeat (first | exact Below.refl _ _ | apply lA | apply lN | apply lD | (refine Below.setCell ?_ (by simp) _))) HD.out) HE.out).cell (World.block_lt_of_cell? _ _ HP1.out)).trans HP1.out)
       have PQE2 := aS (((below_step (below_step (by repeat (first | exact Below.refl _ _ | apply lA | apply lN | apply lD | (refine Below.setCell ?_ (by simp) _))) HD.out) HE.out).cell (World.block_lt_of_cell? _ _ HP2.out)).trans HP2.out)
       refine hK.out _ _ ⟨QE.out.1, QE.out.2.1, QE.out.2.2.1, QE.out.2.2.2.1, QE.out.2.2.2.2.1, QE.out.2.2.2.2.2.1, QE.out.2.2.2.2.2.2, PQE0.out, PQE1.out, PQE2.out⟩ (fun hHeld => ?_)
       clear hK K
       refine nm ?_
       refine tP 7 (some 19) (tb 24 255) ?_
       refine tP 8 (some 20) (tb 24 511) ?_
       refine tP 9 (some 21) (tb 24 1023) ?_
       refine tK 10 (some 22) (tb 24 2047) ?_
       refine tP 11 (some 23) (tb 24 4095) ?_
       refine tP 12 (some 24) (tb 24 8191) ?_
       refine tP 13 (some 25) (tb 24 16383) ?_
       refine tP 14 (some 26) (tb 24 32767) ?_
       refine tP 15 (some 27) (tb 24 65535) ?_
       refine tP 16 (some 28) (tb 24 131071) ?_
       refine tP 17 (some 29) (tb 24 262143) ?_
       refine tP 19 (some 31) (tb 24 786431) ?_
       refine tK 18 (some 30) (tb 24 1048575) ?_
       refine tK 20 (some 32) (tb 24 2097151) ?_
       refine tP 21 (some 33) (tb 24 4194303) ?_
       refine tP 22 (some 34) (tb 24 8388607) ?_
       refine tP 23 (some 35) (tb 24 16777215) ?_
       refine done_ (by kernel_rfl) ?_
       all_goals go_wp2
       all_goals go_ret
       all_goals exact ⟨by rw [HR.out]; rfl, below_then HB.out (Below.size HB.out) (below_step (below_alloc (Below.refl _ _) _) (below_step (below_step (by repeat (first | exact Below.refl _ _ | apply lA | apply lN | apply lD | (refine Below.setCell ?_ (by simp) _))) HD.out) HE.out))⟩
      case true =>
       have HR := aS (show res = rightFrom l (l.length - (i + 1)) (i + 1) by rw [HST.out, HOK.out, H1.out, H2.out, HG1.out]; simp [HB3.out])
       go_wp2
       refine start_ (n := 24) (S := fun w' => w'.cell? ⟨wr.heap.size, 0, none⟩ = some (.int .i32 x.f0) ∧ w'.cell? ⟨wr.heap.size, 1, none⟩ = some (.int .i32 x.f1.f0) ∧ w'.cell? ⟨wr.heap.size, 2, none⟩ = some (.int .i32 x.f1.f1) ∧ w'.cell? ⟨wr.heap.size, 3, none⟩ = some (.int .u8 x.f2) ∧ w'.cell? ⟨wr.heap.size, 4, none⟩ = some (.int .u8 x.f3.f0) ∧ w'.cell? ⟨wr.heap.size, 5, none⟩ = some (.int .u8 x.f3.f1) ∧ w'.cell? ⟨wr.heap.size, 6, none⟩ = some (.int .u8 x.f3.f2) ∧ w'.cell? ⟨(ad.add (m * 7)).block, (ad.add (m * 7)).off + 4, none⟩ = some (.int .u8 y.f3.f0) ∧ w'.cell? ⟨(ad.add (m * 7)).block, (ad.add (m * 7)).off + 5, none⟩ = some (.int .u8 y.f3.f1) ∧ w'.cell? ⟨(ad.add (m * 7)).block, (ad.add (m * 7)).off + 6, none⟩ = some (.int .u8 y.f3.f2)) (ds := []) (tb 24 0) (by kernel_rfl) rfl rfl ⟨BX.out.all.1, BX.out.all.2.1, BX.out.all.2.2.1, BX.out.all.2.2.2.1, BX.out.all.2.2.2.2.1, BX.out.all.2.2.2.2.2.1, BX.out.all.2.2.2.2.2.2, HP0.out, HP1.out, HP2.out⟩ (fun hHeld => ?_)
       refine tK 0 (some 12) (tb 24 1) ?_
       refine sO 1 (some 13) (tb 24 3) (fun K hK => ?_)
       refine gO Tryz.func82 #[.agg #[.int .i32 x.f0, .int .i32 x.f1.f0, .int .i32 x.f1.f1, .int .u8 x.f2, .int .u8 x.f3.f0, .int .u8 x.f3.f1, .int .u8 x.f3.f2]] ?_
       with_reducible refine (HCR.out x _ HX8.out).mono ?_
       rintro e w2 ⟨rfl, hb⟩
       refine ⟨_, rfl, ?_⟩
       rw [H1.out]
       have HD := aS hb
       clear hb
       have QD := aS (BX.out.held (below_step (by repeat (first | exact Below.refl _ _ | apply lA | apply lN | apply lD | (refine Below.setCell ?_ (by simp) _))) HD.out))
       have PQD0 := aS (((below_step (by repeat (first | exact Below.refl _ _ | apply lA | apply lN | apply lD | (refine Below.setCell ?_ (by simp) _))) HD.out).cell (World.block_lt_of_cell? _ _ HP0.out)).trans HP0.out)
       have PQD1 := aS (((below_step (by repeat (first | exact Below.refl _ _ | apply lA | apply lN | apply lD | (refine Below.setCell ?_ (by simp) _))) HD.out).cell (World.block_lt_of_cell? _ _ HP1.out)).trans HP1.out)
       have PQD2 := aS (((below_step (by repeat (first | exact Below.refl _ _ | apply lA | apply lN | apply lD | (refine Below.setCell ?_ (by simp) _))) HD.out).cell (World.block_lt_of_cell? _ _ HP2.out)).trans HP2.out)
       refine hK.out _ _ ⟨QD.out.1, QD.out.2.1, QD.out.2.2.1, QD.out.2.2.2.1, QD.out.2.2.2.2.1, QD.out.2.2.2.2.2.1, QD.out.2.2.2.2.2.2, PQD0.out, PQD1.out, PQD2.out⟩ (fun hHeld => ?_)
       clear hK K
       refine nm ?_
       refine tP 2 (some 14) (tb 24 7) ?_
       refine tP 3 (some 15) (tb 24 15) ?_
       refine tP 4 (some 16) (tb 24 31) ?_
       refine tP 5 (some 17) (tb 24 63) ?_
       refine sO 6 (some 18) (tb 24 127) (fun K hK => ?_)
       refine gO Tryz.func83 #[.slice (some ad) l.length c, .int .i64 (i : Int)] ?_
       with_reducible refine (alone_any (some ad) c l (i : Int) false _ (Kd.C_below HCC.out (below_step (below_alloc (Below.refl _ _) _) (below_step (by repeat (first | exact Below.refl _ _ | apply lA | apply lN | apply lD | (refine Below.setCell ?_ (by simp) _))) HD.out))) HA.out).mono ?_
       rintro e w3 ⟨rfl, hb⟩
       refine ⟨_, rfl, ?_⟩
       have HE := aS hb
       clear hb
       have QE := aS (BX.out.held (below_step (below_step (by repeat (first | exact Below.refl _ _ | apply lA | apply lN | apply lD | (refine Below.setCell ?_ (by simp) _))) HD.out) HE.out))
       have PQE0 := aS (((below_step (below_step (by repeat (first | exact Below.refl _ _ | apply lA | apply lN | apply lD | (refine Below.setCell ?_ (by simp) _))) HD.out) HE.out).cell (World.block_lt_of_cell? _ _ HP0.out)).trans HP0.out)
       have PQE1 := aS (((below_step (below_step (by repeat (first | exact Below.refl _ _ | apply lA | apply lN | apply lD | (refine Below.setCell ?_ (by simp) _))) HD.out) HE.out).cell (World.block_lt_of_cell? _ _ HP1.out)).trans HP1.out)
       have PQE2 := aS (((below_step (below_step (by repeat (first | exact Below.refl _ _ | apply lA | apply lN | apply lD | (refine Below.setCell ?_ (by simp) _))) HD.out) HE.out).cell (World.block_lt_of_cell? _ _ HP2.out)).trans HP2.out)
       refine hK.out _ _ ⟨QE.out.1, QE.out.2.1, QE.out.2.2.1, QE.out.2.2.2.1, QE.out.2.2.2.2.1, QE.out.2.2.2.2.2.1, QE.out.2.2.2.2.2.2, PQE0.out, PQE1.out, PQE2.out⟩ (fun hHeld => ?_)
       clear hK K
       refine nm ?_
       refine tP 7 (some 19) (tb 24 255) ?_
       refine tP 8 (some 20) (tb 24 511) ?_
       refine tP 9 (some 21) (tb 24 1023) ?_
       refine tK 10 (some 22) (tb 24 2047) ?_
       refine tP 11 (some 23) (tb 24 4095) ?_
       refine tP 12 (some 24) (tb 24 8191) ?_
       refine tP 13 (some 25) (tb 24 16383) ?_
       refine tP 14 (some 26) (tb 24 32767) ?_
       refine tP 15 (some 27) (tb 24 65535) ?_
       refine tP 16 (some 28) (tb 24 131071) ?_
       refine tP 17 (some 29) (tb 24 262143) ?_
       refine tP 19 (some 31) (tb 24 786431) ?_
       refine tK 18 (some 30) (tb 24 1048575) ?_
       refine tK 20 (some 32) (tb 24 2097151) ?_
       refine tP 21 (some 33) (tb 24 4194303) ?_
       refine tP 22 (some 34) (tb 24 8388607) ?_
       refine tP 23 (some 35) (tb 24 16777215) ?_
       refine done_ (by kernel_rfl) ?_
       all_goals go_wp2
       all_goals go_roundg (l.length + 1 - (i + 1))
       all_goals (try (case measure => have := HK.out; omega))
       all_goals exact ⟨i + 1, by go_num, by omega, ⟨rfl⟩, HR, ⟨below_then HB.out (Below.size HB.out) (below_step (below_alloc (Below.refl _ _) _) (below_step (below_step (by repeat (first | exact Below.refl _ _ | apply lA | apply lN | apply lD | (refine Below.setCell ?_ (by simp) _))) HD.out) HE.out))⟩⟩
     ·have HW := aS hw
      clear hw
      have HR := aS (show res = rightFrom l (l.length - (i + 1)) (i + 1) by rw [HST.out, HOK.out, H1.out, H2.out]; simp [HW.out])
      have hw0 : (x.f2 == 0) = false := by simpa using HW.out
      go_wp2
      refine start_ (n := 24) (S := fun w' => w'.cell? ⟨wr.heap.size, 0, none⟩ = some (.int .i32 x.f0) ∧ w'.cell? ⟨wr.heap.size, 1, none⟩ = some (.int .i32 x.f1.f0) ∧ w'.cell? ⟨wr.heap.size, 2, none⟩ = some (.int .i32 x.f1.f1) ∧ w'.cell? ⟨wr.heap.size, 3, none⟩ = some (.int .u8 x.f2) ∧ w'.cell? ⟨wr.heap.size, 4, none⟩ = some (.int .u8 x.f3.f0) ∧ w'.cell? ⟨wr.heap.size, 5, none⟩ = some (.int .u8 x.f3.f1) ∧ w'.cell? ⟨wr.heap.size, 6, none⟩ = some (.int .u8 x.f3.f2)) (ds := []) (tb 24 0) (by kernel_rfl) rfl rfl ⟨BX.out.all.1, BX.out.all.2.1, BX.out.all.2.2.1, BX.out.all.2.2.2.1, BX.out.all.2.2.2.2.1, BX.out.all.2.2.2.2.2.1, BX.out.all.2.2.2.2.2.2⟩ (fun hHeld => ?_)
      refine tK 0 (some 12) (tb 24 1) ?_
      refine sO 1 (some 13) (tb 24 3) (fun K hK => ?_)
      refine gO Tryz.func82 #[.agg #[.int .i32 x.f0, .int .i32 x.f1.f0, .int .i32 x.f1.f1, .int .u8 x.f2, .int .u8 x.f3.f0, .int .u8 x.f3.f1, .int .u8 x.f3.f2]] ?_
      with_reducible refine (HCR.out x _ HX8.out).mono ?_
      rintro e w2 ⟨rfl, hb⟩
      refine ⟨_, rfl, ?_⟩
      rw [H1.out]
      have HD := aS hb
      clear hb
      have QD := aS (BX.out.held (below_step (by repeat (first | exact Below.refl _ _ | apply lA | apply lN | apply lD | (refine Below.setCell ?_ (by simp) _))) HD.out))
      refine hK.out _ _ ⟨QD.out.1, QD.out.2.1, QD.out.2.2.1, QD.out.2.2.2.1, QD.out.2.2.2.2.1, QD.out.2.2.2.2.2.1, QD.out.2.2.2.2.2.2⟩ (fun hHeld => ?_)
      clear hK K
      refine nm ?_
      refine tP 2 (some 14) (tb 24 7) ?_
      refine tP 3 (some 15) (tb 24 15) ?_
      refine tP 4 (some 16) (tb 24 31) ?_
      refine tP 5 (some 17) (tb 24 63) ?_
      refine sO 6 (some 18) (tb 24 127) (fun K hK => ?_)
      refine gO Tryz.func83 #[.slice (some ad) l.length c, .int .i64 (i : Int)] ?_
      with_reducible refine (alone_any (some ad) c l (i : Int) false _ (Kd.C_below HCC.out (below_step (below_alloc (Below.refl _ _) _) (below_step (by repeat (first | exact Below.refl _ _ | apply lA | apply lN | apply lD | (refine Below.setCell ?_ (by simp) _))) HD.out))) HA.out).mono ?_
      rintro e w3 ⟨rfl, hb⟩
      refine ⟨_, rfl, ?_⟩
      have HE := aS hb
      clear hb
      have QE := aS (BX.out.held (below_step (below_step (by repeat (first | exact Below.refl _ _ | apply lA | apply lN | apply lD | (refine Below.setCell ?_ (by simp) _))) HD.out) HE.out))
      refine hK.out _ _ ⟨QE.out.1, QE.out.2.1, QE.out.2.2.1, QE.out.2.2.2.1, QE.out.2.2.2.2.1, QE.out.2.2.2.2.2.1, QE.out.2.2.2.2.2.2⟩ (fun hHeld => ?_)
      clear hK K
      refine nm ?_
      refine tP 7 (some 19) (tb 24 255) ?_
      refine tP 8 (some 20) (tb 24 511) ?_
      refine tP 9 (some 21) (tb 24 1023) ?_
      refine tK 10 (some 22) (tb 24 2047) ?_
      refine tP 11 (some 23) (tb 24 4095) ?_
      refine tP 12 (some 24) (tb 24 8191) ?_
      refine tU 13 (some 25) (tb 24 16383) ?_
      refine tU 14 (some 26) (tb 24 32767) ?_
      refine tU 15 (some 27) (tb 24 65535) ?_
      refine tU 16 (some 28) (tb 24 131071) ?_
      refine tU 17 (some 29) (tb 24 262143) ?_
      refine tU 18 (some 30) (tb 24 524287) ?_
      refine tU 19 (some 31) (tb 24 1048575) ?_
      refine tU 20 (some 32) (tb 24 2097151) ?_
      refine tU 21 (some 33) (tb 24 4194303) ?_
      refine tP 22 (some 34) (tb 24 8388607) ?_
      refine tP 23 (some 35) (tb 24 16777215) ?_
      refine done_ (by kernel_rfl) ?_
      all_goals go_wp2
      all_goals go_roundg (l.length + 1 - (i + 1))
      all_goals (try (case measure => have := HK.out; omega))
      all_goals exact ⟨i + 1, by go_num, by omega, ⟨rfl⟩, HR, ⟨below_then HB.out (Below.size HB.out) (below_step (below_alloc (Below.refl _ _) _) (below_step (below_step (by repeat (first | exact Below.refl _ _ | apply lA | apply lN | apply lD | (refine Below.setCell ?_ (by simp) _))) HD.out) HE.out))⟩⟩
  ·obtain rfl : i = l.length := by omega
   have HR := aS (show res = true by rw [HZ.out, Nat.sub_self]; rfl)
   clear hi hlt HZ
   go_wp2
   go_ret
   exact ⟨by rw [HR.out]; rfl, HB.out⟩
def line_Right.f (l0 : List (S40)) : Option (Bool) := if l0.all (fun x => decide (0 ≤ x.f2 ∧ x.f2 ≤ 255)) = true ∧ l0.length ≤ 1000000 then some (rightL l0) else none
theorem line_Right.calls (A0 : Option Addr) (c0 : Nat) (l0 : List (S40)) (r : Bool) (w : World) (hr0 : Kd.C k40 w A0 l0.length l0) (hc0 : l0.length ≤ c0) (h : line_Right.f l0 = some r) :
 Calls Tryz.prog 49 #[.slice A0 l0.length c0] w fun e w' => e = .returned (.bool r) ∧ Below w.heap.size w w' := by
 unfold line_Right.f at h
 by_cases hb : l0.all (fun x => decide (0 ≤ x.f2 ∧ x.f2 ≤ 255)) = true ∧ l0.length ≤ 1000000
 ·rw [if_pos hb] at h
  obtain rfl := Option.some.inj h
  exact right_any (fun x w hx => cell_Right.calls _ _ _ _ _ _ _ (rightS x) w (by unfold cell_Right.f; rw [if_pos hx]; rfl)) A0 c0 l0 w hr0 (fun x hx => of_decide_eq_true (List.all_eq_true.1 hb.1 x hx)) hb.2
 ·rw [if_neg hb] at h; cases h
def blankS (x : S40) : S40 := ⟨32, ⟨0, 0⟩, 1, x.f3⟩
def mendC (l : List S40) : List S40 := l.mapIdx (fun i x => if aloneC l (i : Int) = true then blankS x else x)
def mixC (l : List S40) (i : Nat) : List S40 := (mendC l).take i ++ l.drop i
theorem mend_len (l : List S40) : (mendC l).length = l.length := by simp [mendC]
theorem mix_len (l : List S40) (i : Nat) (h : i ≤ l.length) : (mixC l i).length = l.length := by simp [mixC, mend_len]; omega
theorem mix_zero (l : List S40) : mixC l 0 = l := by simp [mixC]
theorem mix_end (l : List S40) : mixC l l.length = mendC l := by
 rw [mixC, List.drop_eq_nil_of_le (Nat.le_refl _), List.append_nil, List.take_of_length_le (by rw [mend_len]; exact Nat.le_refl _)]
theorem mix_get (l : List S40) (i j : Nat) (h : i ≤ l.length) : (mixC l i)[j]? = if j < i then (mendC l)[j]? else l[j]? := by
 unfold mixC
 by_cases hj : j < i
 ·rw [if_pos hj, List.getElem?_append_left (by rw [List.length_take, mend_len]; omega), List.getElem?_take, if_pos hj]
 ·rw [if_neg hj, List.getElem?_append_right (by rw [List.length_take, mend_len]; omega), List.getElem?_drop, List.length_take, mend_len]
  congr 1; omega
theorem mend_get (l : List S40) (j : Nat) (h : j < l.length) : (mendC l)[j]? = some (if aloneC l (j : Int) = true then blankS (rd_T40 l (j : Int)) else rd_T40 l (j : Int)) := by
 unfold mendC rd_T40
 rw [List.getElem?_mapIdx, Int.toNat_natCast, List.getD_eq_getElem?_getD, List.getElem?_eq_getElem h]
 rfl
theorem mix_no (l : List S40) (i : Nat) (h : i < l.length) (ha : aloneC l (i : Int) = false) : mixC l (i + 1) = mixC l i := by
 refine List.ext_getElem? fun j => ?_
 rw [mix_get _ _ _ (by omega), mix_get _ _ _ (by omega)]
 by_cases hj : j = i
 ·subst hj
  rw [if_pos (by omega), if_neg (by omega), mend_get l j h, ha, rd_get l j h]
  simp
 ·by_cases h1 : j < i
  ·rw [if_pos (by omega), if_pos h1]
  ·rw [if_neg (by omega), if_neg h1]
theorem mix_yes (l : List S40) (i : Nat) (h : i < l.length) (ha : aloneC l (i : Int) = true) : mixC l (i + 1) = (mixC l i).set i (blankS (rd_T40 l (i : Int))) := by
 refine List.ext_getElem? fun j => ?_
 rw [List.getElem?_set, mix_get _ _ _ (by omega), mix_get _ _ _ (by omega), mix_len _ _ (by omega)]
 by_cases hj : j = i
 ·subst hj
  rw [if_pos (by omega), mend_get l j h, if_pos ha, if_pos rfl, if_pos h]
 ·rw [if_neg (Ne.symm hj)]
  by_cases h1 : j < i
  ·rw [if_pos (by omega), if_pos h1]
  ·rw [if_neg (by omega), if_neg h1]
set_option maxHeartbeats 4000000 in
set_option maxRecDepth 100000 in
theorem mend_any (hBlank : ∀ (a b c : Int) (w : World), Calls Tryz.prog 62 #[.agg #[.int .u8 a, .int .u8 b, .int .u8 c]] w fun e w' => e = .returned (.agg #[.int .i32 32, .int .i32 0, .int .i32 0, .int .u8 1, .int .u8 a, .int .u8 b, .int .u8 c]) ∧ Below w.heap.size w w')
 (A : Option Addr) (c : Nat) (l : List S40) (w : World) (hC : Kd.C k40 w A l.length l) (hlen : l.length < 8796093022208) :
 Calls Tryz.prog 92 #[.slice A l.length c] w fun e w' => ∃ v, e = .returned v ∧ Kd.R k40 40 w' w.heap.size (fun _ => True) v (mendC l) ∧ Below w.heap.size w w' := by
 have hub := Tryz.underlying40
 have HBl := aS hBlank
 have HC := aS hC
 have HL := aS hlen
 clear hBlank hC
 go_enter Tryz.func92, Tryz.ntmps92
 go_wp2
 refine wp_scope_same (by intro _ _ _ h; exact h) ?_
 go_wp2_with (first | ((with_reducible refine gate_dst (N := 8) rfl ?_); go_must (refine Kd.R_make k40 (w0 := w) w.heap.size 40 rfl (N := 8) rfl 41 (.tmp 7) (.tmp 7) rfl (l.length : Int) rfl rfl Tryz.underlying41 (.agg #[(.int .i32 0), (.int .i32 0), (.int .i32 0), (.int .u8 0), (.int .u8 0), (.int .u8 0), (.int .u8 0)]) 16 infoC rfl (by decide) (by omega) z40 (ok := fun _ => True) (okp := fun _ => False) (k40_mkM _ _ _ z40) (fun _ h => h.elim) trivial (by omega) (by have := HL.out; omega) (Below.refl _ _) (Nat.le_refl _) ?_); intro v1 w1 ho hb hg hat; have HO := aS ho; have HB := aS hb; clear ho hb hg hat) | ((with_reducible refine gate_builtin (b := .copy) (xs := #[.tmp 9, .tmp 10]) rfl ?_); go_must (refine R_copy_all k40 (w0 := w) w.heap.size rfl (.tmp 9) (.tmp 10) 41 41 40 rfl Tryz.underlying41 (by kernel_rfl) (by decide) v1 _ l _ _ _ (fun _ => True) (fun _ => False) rfl rfl ?hl HO.out (Kd.C_below HC.out HB.out) (fun _ _ _ h => k40_ofK h) (fun _ h => h.elim) HB.out (Below.size HB.out) ?_); (case hl => simp); intro w2 ho hb hg; have HO2 := aS ho; have HB2 := aS hb; clear ho hb hg; clear HO HB))
 refine wp_label ?_
 go_wp2
 go_loopg [14] (l.length + 1) (fun kq v14 w' => ∃ i : Nat, v14 = .int .i64 i ∧ i ≤ l.length ∧ Aside0 (kq = l.length + 1 - i) ∧ Aside0 (Kd.R k40 40 w' w.heap.size (fun _ => True) v1 (mixC l i)) ∧ Aside0 (Below w.heap.size w w'))
 case atStart => exact ⟨0, rfl, by omega, ⟨rfl⟩, ⟨by rw [mix_zero]; exact HO2.out⟩, HB2⟩
 case round =>
  clear HO2 HB2
  obtain ⟨i, rfl, hi, HK, HO, HB⟩ := hrel
  by_cases hlt : i < l.length
  ·obtain ⟨g, cap, hv, hgb, hgl, -⟩ := Kd.R_form HO.out (by rw [mix_len _ _ (by omega)]; omega)
   rw [mix_len _ _ (by omega)] at hv
   subst hv
   obtain ⟨ad, rfl, c0, c1, c2, c3, c4, c5, c6⟩ := at_T40 (Kd.C_below HC.out HB.out) (i : Int) (by omega) (by omega)
   obtain ⟨b, hb⟩ : ∃ b, aloneC l (i : Int) = b := ⟨_, rfl⟩
   have HX := aS (And.intro hb hlt)
   have HA := aS hb
   obtain ⟨x, hx⟩ : ∃ x, rd_T40 l (i : Int) = x := ⟨_, rfl⟩
   rw [hx] at c0 c1 c2 c3 c4 c5 c6
   have HXX := aS hx
   simp only [Int.toNat_natCast] at c0 c1 c2 c3 c4 c5 c6
   clear hb hx
   cases b
   ·go_wp2_with (first | (go_at_call 83; (with_reducible refine (alone_any (some ad) c l (i : Int) false _ ?hC HA.out).mono ?_); (case hC => exact Kd.C_below HC.out (below_then HB.out HB.out.size (by repeat (first | exact Below.refl _ _ | apply lA | apply lN | apply lD | (refine Below.setCell ?_ (by simp) _))))); rintro e w3 ⟨rfl, hbb⟩; have HBB := aS (show Below wr.heap.size wr w3 from below_step (by repeat (first | exact Below.refl _ _ | apply lA | apply lN | apply lD | (refine Below.setCell ?_ (by simp) _))) hbb); clear hbb))
    go_roundg (l.length + 1 - (i + 1))
    case measure => have := HK.out; omega
    case rel => exact ⟨i + 1, by go_num, by omega, ⟨rfl⟩, ⟨by rw [mix_no l i HX.out.2 HX.out.1]; exact Kd.R_below HO.out HBB.out⟩, ⟨below_then HB.out HB.out.size HBB.out⟩⟩
   ·obtain ⟨cc, hcl, hcM, hcc, hff⟩ := Kd.R_elem HO.out z40 (i : Int) (by omega) (by omega)
    have HE := aS (And.intro hcl hcc)
    clear hcl hcM hcc hff
    go_wp2_with (first | (go_at_call 83; (with_reducible refine (alone_any (some ad) c l (i : Int) true _ ?hC HA.out).mono ?_); (case hC => exact Kd.C_below HC.out (below_then HB.out HB.out.size (by repeat (first | exact Below.refl _ _ | apply lA | apply lN | apply lD | (refine Below.setCell ?_ (by simp) _))))); rintro e w3 ⟨rfl, hbb⟩; have HBB := aS (show Below wr.heap.size wr w3 from below_step (by repeat (first | exact Below.refl _ _ | apply lA | apply lN | apply lD | (refine Below.setCell ?_ (by simp) _))) hbb); have d4 : w3.cell? ⟨wr.heap.size, 4, none⟩ = some (.int .u8 x.f3.f0) := (hbb.cell (p := ⟨wr.heap.size, 4, none⟩) (by simp)).trans (by simp); have d5 : w3.cell? ⟨wr.heap.size, 5, none⟩ = some (.int .u8 x.f3.f1) := (hbb.cell (p := ⟨wr.heap.size, 5, none⟩) (by simp)).trans (by simp); have d6 : w3.cell? ⟨wr.heap.size, 6, none⟩ = some (.int .u8 x.f3.f2) := (hbb.cell (p := ⟨wr.heap.size, 6, none⟩) (by simp)).trans (by simp); clear hbb) | (go_at_call 62; (with_reducible refine (HBl.out x.f3.f0 x.f3.f1 x.f3.f2 _).mono ?_); rintro e w4 ⟨rfl, hbb⟩; have HBC := aS (show Below wr.heap.size wr w4 from below_step HBB.out hbb); have HB4 := aS (show Below w.heap.size w w4 from below_then HB.out HB.out.size HBC.out); clear hbb) | ((with_reducible refine gate_store (t := 40) (p := 28) rfl ?_); go_must (refine Kd.R_store k40 (w0 := w) w.heap.size rfl rfl 40 (.tmp 28) (.tmp 27) rfl 40 (g := g) (n := l.length) (cap := cap) (o' := i * 7) (i : Int) 0 (mixC l i) (blankS x) _ [.int .i32 32, .int .i32 0, .int .i32 0, .int .u8 1, .int .u8 x.f3.f0, .int .u8 x.f3.f1, .int .u8 x.f3.f2] cc (fun _ => True) (fun _ => False) ?ha ?ho rfl rfl ?ht ?h1 ?hO ?hq0 ?hq1 HE.out.1 ?hcc ?hj ?hM (fun _ h => h.elim) ?hB ?_); go_must (case ha => rfl); go_must (case hq0 => omega); go_must (case hq1 => omega); go_must (case ho => rw [Int.toNat_natCast]; rfl); go_must (case ht => kernel_rfl); go_must (case h1 => simp [Value.oneCell']; done); go_must (case hO => exact Kd.R_below HO.out HBC.out); go_must (case hcc => exact fun j u hj => (HBC.out.cell (p := ⟨g, _, none⟩) hgl).trans (HE.out.2 j u hj)); go_must (case hj => exact Nat.le_refl 7); go_must (case hM => have hcl := HE.out.1; rw [List.take_zero, List.nil_append, Nat.zero_add, List.drop_eq_nil_of_le (by rw [hcl]; exact Nat.le_refl 7), List.append_nil]; exact k40_mkM _ _ _ (blankS x)); go_must (case hB => exact HB4.out); intro w5 ho hb hg; simp only [Int.toNat_natCast] at ho; have HO3 := aS ho; have HB3 := aS hb; clear ho hb hg))
    go_roundg (l.length + 1 - (i + 1))
    case measure => have := HK.out; omega
    case rel => exact ⟨i + 1, by go_num, by omega, ⟨rfl⟩, ⟨by rw [mix_yes l i HX.out.2 HX.out.1, HXX.out]; exact HO3.out⟩, HB3⟩
  ·obtain rfl : i = l.length := by omega
   clear hi hlt
   go_wp2
   go_ret
   exact ⟨_, rfl, by rw [← mix_end]; exact HO.out, HB.out⟩
def line_Mend.f (l0 : List (S40)) : Option ((List (S40))) := if l0.length < 8796093022208 then some (mendC l0) else none
theorem line_Mend.calls (A0 : Option Addr) (c0 : Nat) (l0 : List (S40)) (r : List (S40)) (w : World) (hr0 : Kd.C k40 w A0 l0.length l0) (hc0 : l0.length ≤ c0) (h : line_Mend.f l0 = some r) :
 Calls Tryz.prog 92 #[.slice A0 l0.length c0] w fun e w' => ∃ v0_ : Value, e = .returned (v0_) ∧ Kd.R k40 40 w' w.heap.size (fun _ => True) v0_ r ∧ Below w.heap.size w w' := by
 unfold line_Mend.f at h
 by_cases hb : l0.length < 8796093022208
 ·rw [if_pos hb] at h
  obtain rfl := Option.some.inj h
  exact mend_any (fun a b c w => cell_Blank.calls a b c _ _ _ _ _ _ _ w rfl) A0 c0 l0 w hr0 hb
 ·rw [if_neg hb] at h; cases h
set_option maxHeartbeats 4000000 in
set_option maxRecDepth 100000 in
theorem laid_any (hMend : ∀ (A : Option Addr) (c : Nat) (l : List S40) (w : World), Kd.C k40 w A l.length l → l.length ≤ c → l.length < 8796093022208 →
 Calls Tryz.prog 92 #[.slice A l.length c] w fun e w' => ∃ v, e = .returned v ∧ Kd.R k40 40 w' w.heap.size (fun _ => True) v (mendC l) ∧ Below w.heap.size w w')
 (A : Option Addr) (c : Nat) (l : List S40) (i : Int) (A2 : Option Addr) (c2 : Nat) (l2 : List S40) (w : World) (hC : Kd.C k40 w A l.length l) (hc : l.length ≤ c) (hC2 : Kd.C k40 w A2 l2.length l2)
 (h0 : 0 ≤ i) (h1 : i + l2.length ≤ l.length) (hlen : l.length < 1000000000000) :
 Calls Tryz.prog 90 #[.slice A l.length c, .int .i64 i, .slice A2 l2.length c2] w fun e w' => ∃ v, e = .returned v ∧ Kd.R k40 40 w' w.heap.size (fun _ => True) v (mendC (l.take i.toNat ++ l2 ++ l.drop (i.toNat + l2.length))) ∧ Below w.heap.size w w' := by
 obtain ⟨hcut, hread⟩ := cut_cap (P := Tryz.prog) k40 41 40 Tryz.underlying41 infoC A c l i h0 (by omega) hc
 obtain ⟨A3, hcut3, hread3, hc3⟩ := cut_drop (P := Tryz.prog) k40 41 40 .i64 Tryz.underlying41 infoC A c l (i + l2.length) (by omega) h1 hc
 have hR := hread w hC
 have hR3 := hread3 w hC
 obtain ⟨X, hX⟩ : ∃ X, l.take i.toNat = X := ⟨_, rfl⟩
 obtain ⟨Y, hY⟩ : ∃ Y, l.drop (i + l2.length).toNat = Y := ⟨_, rfl⟩
 have hXl : X.length ≤ l.length := by rw [← hX, List.length_take]; omega
 have hYl : Y.length ≤ l.length := by rw [← hY, List.length_drop]; omega
 have hZ : l.take i.toNat ++ l2 ++ l.drop (i.toNat + l2.length) = X ++ l2 ++ Y := by rw [← hX, ← hY]; congr 2; omega
 rw [hZ]
 obtain ⟨XL, hXL⟩ : ∃ XL, X ++ l2 = XL := ⟨_, rfl⟩
 obtain ⟨Z, hZZ⟩ : ∃ Z, XL ++ Y = Z := ⟨_, rfl⟩
 rw [hXL, hZZ]
 have hXLl : XL.length = X.length + l2.length := by rw [← hXL, List.length_append]
 have hZZl : Z.length = XL.length + Y.length := by rw [← hZZ, List.length_append]
 have NX := aS hXL
 have NZ := aS hZZ
 rw [hX] at hcut hR
 rw [hY] at hcut3 hR3
 have HF := aS (show RowF k40 40 w w.heap.size (.slice A X.length X.length) X from .inr ⟨A, rfl, hR⟩)
 have HC2 := aS hC2
 have HC3 := aS hR3
 have HM := aS hMend
 have HLL := aS (show X.length ≤ l.length ∧ Y.length ≤ l.length ∧ l2.length ≤ l.length ∧ l.length < 1000000000000 ∧ XL.length = X.length + l2.length ∧ Z.length = XL.length + Y.length from ⟨hXl, hYl, by omega, hlen, hXLl, hZZl⟩)
 clear hXLl hZZl hXL hZZ hread hread3 hC hR hR3 hX hY hZ hXl hYl hC2 hMend hc3
 go_enter Tryz.func90, Tryz.ntmps90
 go_wp2_with (first | ((with_reducible refine gate_builtin (b := .append) (xs := #[.tmp 11, .tmp 12]) rfl ?_); go_must (at_builtin); go_must (refine R_append_full k40 (w0 := w) w.heap.size rfl (.tmp 11) (.tmp 12) 41 40 (.agg #[(.int .i32 0), (.int .i32 0), (.int .i32 0), (.int .u8 0), (.int .u8 0), (.int .u8 0), (.int .u8 0)]) 16 rfl Tryz.underlying41 infoC rfl (by decide) (by omega) _ X l2 _ _ _ rfl rfl HF.out HC2.out (fun _ _ _ h => k40_ofK h) (Below.refl _ _) (Nat.le_refl _) ?aL ?_); go_must (case aL => have := HLL.out; omega); intro v3 w3 ho hb; rw [NX.out] at ho; have HO3 := aS ho; have HB3 := aS hb; clear ho hb) | ((with_reducible refine gate_builtin (b := .append) (xs := #[.tmp 14, .tmp 20]) rfl ?_); go_must (at_builtin); go_must (refine R_append_full k40 (w0 := w) w.heap.size rfl (.tmp 14) (.tmp 20) 41 40 (.agg #[(.int .i32 0), (.int .i32 0), (.int .i32 0), (.int .u8 0), (.int .u8 0), (.int .u8 0), (.int .u8 0)]) 16 rfl Tryz.underlying41 infoC rfl (by decide) (by omega) _ XL Y _ _ _ rfl rfl HO3.out (Kd.C_below HC3.out HB3.out) (fun _ _ _ h => k40_ofK h) HB3.out (Below.size HB3.out) ?aL ?_); go_must (case aL => have := HLL.out; omega); intro v4 w4 ho hb; rw [NZ.out] at ho; obtain ⟨A4, c4, rfl, hc4, hC4⟩ := RowF.reads ho; have HC4 := aS (And.intro hC4 hc4); have HB4 := aS hb; clear ho hb hC4 hc4) | (go_at_call 92; go_must (refine (HM.out A4 c4 Z _ HC4.out.1 HC4.out.2 ?hl).mono ?_); go_must (case hl => have := HLL.out; omega); rintro e w5 ⟨v5, rfl, hR, hbb⟩; have HO5 := aS (Kd.R_lower hR (Below.size HB4.out)); have HB5 := aS (below_then HB4.out (Below.size HB4.out) hbb); clear hR hbb))
 go_ret
 exact ⟨_, rfl, HO5.out, HB5.out⟩
def line_laid.f (l0 : List (S40)) (a1 : Int) (l2 : List (S40)) : Option ((List (S40))) := if 0 ≤ a1 ∧ a1 + l2.length ≤ l0.length ∧ l0.length < 1000000000000 then some (mendC (l0.take a1.toNat ++ l2 ++ l0.drop (a1.toNat + l2.length))) else none
theorem line_laid.calls (A0 : Option Addr) (c0 : Nat) (l0 : List (S40)) (a1 : Int) (A2 : Option Addr) (c2 : Nat) (l2 : List (S40)) (r : List (S40)) (w : World) (hr0 : Kd.C k40 w A0 l0.length l0) (hc0 : l0.length ≤ c0) (hr2 : Kd.C k40 w A2 l2.length l2) (hc2 : l2.length ≤ c2) (h : line_laid.f l0 a1 l2 = some r) :
 Calls Tryz.prog 90 #[.slice A0 l0.length c0, .int .i64 a1, .slice A2 l2.length c2] w fun e w' => ∃ v0_ : Value, e = .returned (v0_) ∧ Kd.R k40 40 w' w.heap.size (fun _ => True) v0_ r ∧ Below w.heap.size w w' := by
 unfold line_laid.f at h
 by_cases hb : 0 ≤ a1 ∧ a1 + l2.length ≤ l0.length ∧ l0.length < 1000000000000
 ·rw [if_pos hb] at h
  obtain rfl := Option.some.inj h
  exact laid_any (fun A c l w hC hc hl => line_Mend.calls A c l (mendC l) w hC hc (by unfold line_Mend.f; rw [if_pos hl])) A0 c0 l0 a1 A2 c2 l2 w hr0 hc0 hr2 hb.1 hb.2.1 hb.2.2
 ·rw [if_neg hb] at h; cases h
def line_Put.j0 : Nat → List (S40) → Int → Bool → Int → Int → Int → Int → Int → Int → Int → Option ((List (S40)) × Bool)
 | 0, _, _, _, _, _, _, _, _, _, _ => none
 | k + 1, x0, x1, x35, x125000, x125001, x125002, x125003, x125004, x125005, x125006 => if x35 = true then ((cell_Cell_52.f x0).bind fun t126 => (some (t126, false))) else (if x125003 = 2 then ((cell_Rest.f x125000 x125001 x125002 x125003 x125004 x125005 x125006).bind fun bt129 => ((line_laid.f x0 x1 (([(⟨x125000, (⟨x125001, x125002⟩ : S36), x125003, (⟨x125004, x125005, x125006⟩ : S38)⟩ : S40), (⟨bt129.1, (⟨bt129.2.1, bt129.2.2.1⟩ : S36), bt129.2.2.2.1, (⟨bt129.2.2.2.2.1, bt129.2.2.2.2.2.1, bt129.2.2.2.2.2.2⟩ : S38)⟩ : S40)] : List (S40)))).bind fun t139 => (some (t139, true)))) else ((line_laid.f x0 x1 (([(⟨x125000, (⟨x125001, x125002⟩ : S36), x125003, (⟨x125004, x125005, x125006⟩ : S38)⟩ : S40)] : List (S40)))).bind fun t145 => (some (t145, true))))
def line_Put.f (k : Nat) (l0 : List (S40)) (a1 : Int) (a2_0 : Int) (a2_1 : Int) (a2_2 : Int) (a2_3 : Int) (a2_4 : Int) (a2_5 : Int) (a2_6 : Int) : Option ((List (S40)) × Bool) := if a2_3 = 0 then (line_Put.j0 k l0 a1 true a2_0 a2_1 a2_2 a2_3 a2_4 a2_5 a2_6) else ((cell_Right.f a2_0 a2_1 a2_2 a2_3 a2_4 a2_5 a2_6).bind fun t125 => (if t125 = true then (if a1 < 0 then (line_Put.j0 k l0 a1 true a2_0 a2_1 a2_2 a2_3 a2_4 a2_5 a2_6) else (if a1 ≥ (l0.length : Int) then (line_Put.j0 k l0 a1 true a2_0 a2_1 a2_2 a2_3 a2_4 a2_5 a2_6) else (line_Put.j0 k l0 a1 (decide ((wrap64 ((l0.length : Int) - a1)) < (wrap64 (a2_3)))) a2_0 a2_1 a2_2 a2_3 a2_4 a2_5 a2_6))) else (line_Put.j0 k l0 a1 true a2_0 a2_1 a2_2 a2_3 a2_4 a2_5 a2_6)))
def line_Put.T4 : Bool × List (List Nat × List Nat) := (true, [([], []), ([], []), ([], []), ([], []), ([3], [3]), ([2, 4], [2, 4]), ([0, 1, 5, 4], [0, 1, 5]), ([6, 6, 0, 1, 2, 3, 4, 5, 6], [6]), ([7, 0, 1, 2, 3, 4, 5, 6, 7], [])])
def line_Put.B4 : List Nat := [0, 0, 0, 0, 8, 28, 63, 127, 255]
theorem line_Put.tab4 : rtab .any (opsOf Tryz.f58 4) = line_Put.T4 := by kernel_rfl
theorem line_Put.bits4 : waitsOk line_Put.T4.2 line_Put.B4 = true := by kernel_rfl
set_option maxHeartbeats 8000000 in
set_option maxRecDepth 100000 in
theorem line_Put.calls (k : Nat) (A0 : Option Addr) (c0 : Nat) (l0 : List (S40)) (a1 : Int) (a2_0 : Int) (a2_1 : Int) (a2_2 : Int) (a2_3 : Int) (a2_4 : Int) (a2_5 : Int) (a2_6 : Int) (r1 : List (S40)) (r2 : Bool) (w : World) (hr0 : Kd.C k40 w A0 l0.length l0) (hc0 : l0.length ≤ c0) (h : line_Put.f k l0 a1 a2_0 a2_1 a2_2 a2_3 a2_4 a2_5 a2_6 = some (r1, r2)) :
 Calls Tryz.prog 58 #[.slice A0 l0.length c0, .int .i64 a1, .agg #[.int .i32 a2_0, .int .i32 a2_1, .int .i32 a2_2, .int .u8 a2_3, .int .u8 a2_4, .int .u8 a2_5, .int .u8 a2_6]] w fun e w' => ∃ v0_ : Value, e = .returned (.tuple #[v0_, .bool r2]) ∧ Kd.R k40 40 w' w.heap.size (fun _ => True) v0_ r1 ∧ Below w.heap.size w w' := by
 have hu40 := Tryz.underlying40
 have HR0 := aS hr0
 have HC0 := aS hc0
 clear hr0 hc0
 have HB := aS (Below.refl w.heap.size w)
 have H : (if a2_3 = 0 then (line_Put.j0 k l0 a1 true a2_0 a2_1 a2_2 a2_3 a2_4 a2_5 a2_6) else ((cell_Right.f a2_0 a2_1 a2_2 a2_3 a2_4 a2_5 a2_6).bind fun t125 => (if t125 = true then (if a1 < 0 then (line_Put.j0 k l0 a1 true a2_0 a2_1 a2_2 a2_3 a2_4 a2_5 a2_6) else (if a1 ≥ (l0.length : Int) then (line_Put.j0 k l0 a1 true a2_0 a2_1 a2_2 a2_3 a2_4 a2_5 a2_6) else (line_Put.j0 k l0 a1 (decide ((wrap64 ((l0.length : Int) - a1)) < (wrap64 (a2_3)))) a2_0 a2_1 a2_2 a2_3 a2_4 a2_5 a2_6))) else (line_Put.j0 k l0 a1 true a2_0 a2_1 a2_2 a2_3 a2_4 a2_5 a2_6)))) = some (r1, r2) := h
 clear h
 have HC4 := aS H
 clear H
 go_enter Tryz.func58, Tryz.ntmps58
 go_upto_region 1 with (first | ((with_reducible refine gate_dst (N := 5) rfl ?_); (try (refine gate_guard (by rfl) ?_; dsimp only)); refine bx 5 #[.int .i32 a2_0, .int .i32 a2_1, .int .i32 a2_2, .int .u8 a2_3, .int .u8 a2_4, .int .u8 a2_5, .int .u8 a2_6] 40 ?_; intro gb124 hg w5 hbox hb; have BK124 := aS (hbox); have GW124 := aS (gw HB hg); have GE124 := aS (gw HB hg); replace HB := aS (below_step bB hb); clear hb hbox hg))
 (try simp only [Act.put, List.setIfInBounds_toArray, List.set_cons_zero, List.set_cons_succ])
 go_cut [35] (fun v35 wc => ∃ (kq : Nat) (x35_3 : Bool), v35 = .bool x35_3 ∧ Aside0 (line_Put.j0 kq l0 a1 x35_3 a2_0 a2_1 a2_2 a2_3 a2_4 a2_5 a2_6 = some (r1, r2)) ∧ Aside0 (kq ≤ k) ∧ Aside0 (wc.heap[gb124]? = some (.cells #[.int .i32 a2_0, .int .i32 a2_1, .int .i32 a2_2, .int .u8 a2_3, .int .u8 a2_4, .int .u8 a2_5, .int .u8 a2_6] 40 (0, 0))) ∧ Aside0 (Below w.heap.size w wc))
 case first =>
  have H := HC4.out
  clear HC4
  by_cases c6 : a2_3 = 0
  ·rw [if_pos c6] at H
   have c6b0 : (a2_3 == 0) = true := beq_iff_eq.mpr c6
   have c6b1 : (a2_3 != 0) = false := bne_eq_false_iff_eq.mpr c6
   clear c6
   (first | rw [c6b0] | (simp only [i64_w, i32_w]; rw [c6b0]) | skip)
   have H' := aS H
   clear H
   have hz7 := cel7 BK124.out
   go_wp2
   go_meet
   case rel => exact ⟨_, (true), fS, H', ⟨by first | omega | exact Nat.le_refl _⟩, ⟨kb BK124⟩, ⟨bS⟩⟩
  ·rw [if_neg c6] at H
   have c6b0 : (a2_3 == 0) = false := beq_eq_false_iff_ne.mpr c6
   have c6b1 : (a2_3 != 0) = true := bne_iff_ne.mpr c6
   (first | rw [c6b0] | (simp only [i64_w, i32_w]; rw [c6b0]) | skip)
   replace H := Option.bind_eq_some_iff.mp H
   obtain ⟨t125, A80, H⟩ := H
   try dsimp only at H
   have A8 := aS A80
   clear A80
   by_cases c9 : t125 = true
   ·subst c9
    have H1 : (if a1 < 0 then (line_Put.j0 k l0 a1 true a2_0 a2_1 a2_2 a2_3 a2_4 a2_5 a2_6) else (if a1 ≥ (l0.length : Int) then (line_Put.j0 k l0 a1 true a2_0 a2_1 a2_2 a2_3 a2_4 a2_5 a2_6) else (line_Put.j0 k l0 a1 (decide ((wrap64 ((l0.length : Int) - a1)) < (wrap64 (a2_3)))) a2_0 a2_1 a2_2 a2_3 a2_4 a2_5 a2_6))) = some (r1, r2) := by rw [if_pos rfl] at H; exact H
    clear H
    have H := H1
    clear H1
    by_cases c10 : a1 < 0
    ·rw [if_pos c10] at H
     have c10b0 : decide (a1 < 0) = true := decide_eq_true c10
     clear c10
     have H' := aS H
     clear H
     have hz11 := cel7 BK124.out
     go_wp2_with (first | (go_at_call 82; (with_reducible refine (cell_Right.calls a2_0 a2_1 a2_2 a2_3 a2_4 a2_5 a2_6 true _ A8.out).mono ?_); rintro e w12 ⟨rfl, hb⟩; replace BK124 := aS (blk_below (kb BK124) hb); replace HB := aS (below_step bS hb); (try clear hb); (try clear hb2); (try clear hk); (try clear hi)))
     go_meet
     case rel => exact ⟨_, (true), fS, H', ⟨by first | omega | exact Nat.le_refl _⟩, ⟨kb BK124⟩, ⟨bS⟩⟩
    ·rw [if_neg c10] at H
     have c10b0 : decide (a1 < 0) = false := decide_eq_false c10
     clear c10
     by_cases c13 : a1 ≥ (l0.length : Int)
     ·rw [if_pos c13] at H
      have c13b0 : decide ((l0.length : Int) ≤ a1) = true := decide_eq_true c13
      clear c13
      have H' := aS H
      clear H
      have hz14 := cel7 BK124.out
      go_wp2_with (first | (go_at_call 82; (with_reducible refine (cell_Right.calls a2_0 a2_1 a2_2 a2_3 a2_4 a2_5 a2_6 true _ A8.out).mono ?_); rintro e w15 ⟨rfl, hb⟩; replace BK124 := aS (blk_below (kb BK124) hb); replace HB := aS (below_step bS hb); (try clear hb); (try clear hb2); (try clear hk); (try clear hi)))
      go_meet
      case rel => exact ⟨_, (true), fS, H', ⟨by first | omega | exact Nat.le_refl _⟩, ⟨kb BK124⟩, ⟨bS⟩⟩
     ·rw [if_neg c13] at H
      have c13b0 : decide ((l0.length : Int) ≤ a1) = false := decide_eq_false c13
      clear c13
      have H' := aS H
      clear H
      have hz16 := cel7 BK124.out
      go_wp2_with (first | (go_at_call 82; (with_reducible refine (cell_Right.calls a2_0 a2_1 a2_2 a2_3 a2_4 a2_5 a2_6 true _ A8.out).mono ?_); rintro e w17 ⟨rfl, hb⟩; replace BK124 := aS (blk_below (kb BK124) hb); replace HB := aS (below_step bS hb); (try clear hb); (try clear hb2); (try clear hk); (try clear hi); have hz18 := cel7 BK124.out))
      go_meet
      case rel => exact ⟨_, (decide ((wrap64 ((l0.length : Int) - a1)) < (wrap64 (a2_3)))), fS, H', ⟨by first | omega | exact Nat.le_refl _⟩, ⟨kb BK124⟩, ⟨bS⟩⟩
   ·replace c9 := Bool.eq_false_iff.mpr c9
    subst c9
    have H1 : (line_Put.j0 k l0 a1 true a2_0 a2_1 a2_2 a2_3 a2_4 a2_5 a2_6) = some (r1, r2) := by rw [if_neg (show ¬ (false = true) by decide)] at H; exact H
    clear H
    have H := H1
    clear H1
    have H' := aS H
    clear H
    have hz19 := cel7 BK124.out
    go_wp2_with (first | (go_at_call 82; (with_reducible refine (cell_Right.calls a2_0 a2_1 a2_2 a2_3 a2_4 a2_5 a2_6 false _ A8.out).mono ?_); rintro e w20 ⟨rfl, hb⟩; replace BK124 := aS (blk_below (kb BK124) hb); replace HB := aS (below_step bS hb); (try clear hb); (try clear hb2); (try clear hk); (try clear hi)))
    go_meet
    case rel => exact ⟨_, (true), fS, H', ⟨by first | omega | exact Nat.le_refl _⟩, ⟨kb BK124⟩, ⟨bS⟩⟩
 case rest =>
  clear HC4
  try clear c1
  try clear p2
  try clear c5
  try clear c6
  try clear c6b0
  try clear c6b1
  try clear p6
  try clear c9
  try clear c10
  try clear c10b0
  try clear c13
  try clear c13b0
  try clear hz11
  try clear hz14
  try clear hz16
  try clear hz18
  try clear hz19
  try clear hz7
  obtain ⟨kq, x35_3, rfl, HA, HJ3, BK124, HB⟩ := hcut
  cases kq with
  | zero => exact absurd HA.out (by simp [line_Put.j0])
  | succ kj3 =>
   have H := HA.out
   clear HA
   simp only [line_Put.j0] at H
   by_cases c21 : x35_3 = true
   ·subst c21
    have H1 : ((cell_Cell_52.f l0).bind fun t126 => (some (t126, false))) = some (r1, r2) := by rw [if_pos rfl] at H; exact H
    clear H
    have H := H1
    clear H1
    replace H := Option.bind_eq_some_iff.mp H
    obtain ⟨t126, A220, H⟩ := H
    try dsimp only at H
    have A22 := aS A220
    clear A220
    simp only [Option.some.injEq, Prod.mk.injEq] at H
    obtain ⟨rfl, rfl⟩ := H
    go_wp2_with (first | (refine gL 52 37 Tryz.func52 #[.slice A0 l0.length c0] ?_; (with_reducible refine (cell_Cell_52.calls _ _ l0 t126 _ ?side1 ?side2 A22.out).mono ?_); (case side1 => repeat (first | exact (Kd.C_below HR0.out HB.out) | (with_reducible refine Kd.C_alloc ?_ _) | (with_reducible refine Kd.C_drewN ?_ _) | (with_reducible refine Kd.C_drew ?_))); (case side2 => exact HC0.out); rintro e w23 ⟨v127, rfl, ho0, hb⟩; refine ⟨_, rfl, ?_⟩; have HO128 := aS (Kd.R_lower (Kd.R_newB ho0 (kb BK124)) (below_size bS)); replace BK124 := aS (blk_below (kb BK124) hb); replace HB := aS (below_step bS hb); (try clear hb); (try clear hb2); (try clear hk); (try clear hi); (try clear ho0)))
    go_ret2
    exact ⟨_, by first | rfl | (simp <;> rfl) | (simp [*] <;> rfl), by (with_reducible repeat (first | apply rA | apply rN | apply rD)); exact Kd.R_mono HO128.out (fun _ hk => trivial), bS⟩
   ·replace c21 := Bool.eq_false_iff.mpr c21
    subst c21
    have H1 : (if a2_3 = 2 then ((cell_Rest.f a2_0 a2_1 a2_2 a2_3 a2_4 a2_5 a2_6).bind fun bt129 => ((line_laid.f l0 a1 (([(⟨a2_0, (⟨a2_1, a2_2⟩ : S36), a2_3, (⟨a2_4, a2_5, a2_6⟩ : S38)⟩ : S40), (⟨bt129.1, (⟨bt129.2.1, bt129.2.2.1⟩ : S36), bt129.2.2.2.1, (⟨bt129.2.2.2.2.1, bt129.2.2.2.2.2.1, bt129.2.2.2.2.2.2⟩ : S38)⟩ : S40)] : List (S40)))).bind fun t139 => (some (t139, true)))) else ((line_laid.f l0 a1 (([(⟨a2_0, (⟨a2_1, a2_2⟩ : S36), a2_3, (⟨a2_4, a2_5, a2_6⟩ : S38)⟩ : S40)] : List (S40)))).bind fun t145 => (some (t145, true)))) = some (r1, r2) := by rw [if_neg (show ¬ (false = true) by decide)] at H; exact H
    clear H
    have H := H1
    clear H1
    by_cases c24 : a2_3 = 2
    ·rw [if_pos c24] at H
     have c24b0 : (a2_3 == 2) = true := beq_iff_eq.mpr c24
     have c24b1 : (a2_3 != 2) = false := bne_eq_false_iff_eq.mpr c24
     clear c24
     replace H := Option.bind_eq_some_iff.mp H
     obtain ⟨⟨t129, t130, t131, t132, t133, t134, t135⟩, A250, H⟩ := H
     try dsimp only at H
     have A25 := aS A250
     clear A250
     obtain ⟨y136, hy136⟩ : ∃ y_ : List (S40), y_ = (([(⟨a2_0, (⟨a2_1, a2_2⟩ : S36), a2_3, (⟨a2_4, a2_5, a2_6⟩ : S38)⟩ : S40), (⟨t129, (⟨t130, t131⟩ : S36), t132, (⟨t133, t134, t135⟩ : S38)⟩ : S40)] : List (S40))) := ⟨_, rfl⟩
     replace H : ((line_laid.f l0 a1 y136).bind fun t139 => (some (t139, true))) = some (r1, r2) := rq hy136 H
     have Ny136 := aS hy136
     clear hy136
     replace H := Option.bind_eq_some_iff.mp H
     obtain ⟨t139, A260, H⟩ := H
     try dsimp only at H
     have A26 := aS A260
     clear A260
     simp only [Option.some.injEq, Prod.mk.injEq] at H
     obtain ⟨rfl, rfl⟩ := H
     have hz27 := cel7 BK124.out
     try go_wp2
     replace BK124 := aS (blk_drew BK124.out)
     replace HB := aS (below_drew1 HB.out)
     refine start_ (n := 9) (S := fun w' => w'.cell? ⟨gb124, 0, none⟩ = some (.int .i32 a2_0) ∧ w'.cell? ⟨gb124, 1, none⟩ = some (.int .i32 a2_1) ∧ w'.cell? ⟨gb124, 2, none⟩ = some (.int .i32 a2_2) ∧ w'.cell? ⟨gb124, 3, none⟩ = some (.int .u8 a2_3) ∧ w'.cell? ⟨gb124, 4, none⟩ = some (.int .u8 a2_4) ∧ w'.cell? ⟨gb124, 5, none⟩ = some (.int .u8 a2_5) ∧ w'.cell? ⟨gb124, 6, none⟩ = some (.int .u8 a2_6)) (ds := []) (tb 9 0) (by kernel_rfl) rfl rfl (c7 BK124.out) (fun hHeld => ?_); refine with_tabW line_Put.tab4 line_Put.bits4 (fun HT_ HW_ => ?_)
     generalize wc.drew = w28 at BK124 HB hHeld ⊢
     refine tp 0 (some 41) (tb 9 1) ?_
     refine tp 1 (some 42) (tb 9 3) ?_
     refine tk 2 (some 43) (tb 9 7) ?_
     refine tk 3 (some 44) (tb 9 15) ?_
     refine st1 4 (some 45) (tb 9 31) (fun K hK => ?_)
     refine gO Tryz.func91 #[.agg #[.int .i32 a2_0, .int .i32 a2_1, .int .i32 a2_2, .int .u8 a2_3, .int .u8 a2_4, .int .u8 a2_5, .int .u8 a2_6]] ?_
     with_reducible refine (cell_Rest.calls a2_0 a2_1 a2_2 a2_3 a2_4 a2_5 a2_6 t129 t130 t131 t132 t133 t134 t135 _ A25.out).mono ?_
     rintro e w29 ⟨rfl, hb⟩
     refine ⟨_, rfl, ?_⟩
     replace BK124 := aS (blk_below (kb BK124) hb)
     replace HB := aS (below_step bS hb)
     (try clear hb)
     (try clear hb2)
     (try clear hk)
     (try clear hi)
     refine hK.out _ _ (c7 BK124.out) (fun hHeld => ?_)
     clear hK K
     refine nm ?_
     refine st1 5 (some 46) (tb 9 63) (fun K hK => ?_)
     refine Kd.R_lit_step k40 _ 40 ?hg (N := 46) ?hd (xs := ([(⟨a2_0, (⟨a2_1, a2_2⟩ : S36), a2_3, (⟨a2_4, a2_5, a2_6⟩ : S38)⟩ : S40), (⟨t129, (⟨t130, t131⟩ : S36), t132, (⟨t133, t134, t135⟩ : S38)⟩ : S40)] : List (S40))) (inner := [.int .i32 a2_0, .int .i32 a2_1, .int .i32 a2_2, .int .u8 a2_3, .int .u8 a2_4, .int .u8 a2_5, .int .u8 a2_6, .int .i32 t129, .int .i32 t130, .int .i32 t131, .int .u8 t132, .int .u8 t133, .int .u8 t134, .int .u8 t135]) (ok := fun _ => True) (okp := fun _ => True) ?hr ?hp (fun _ hk => hk) trivial (Below.refl _ _) (Nat.le_refl _) (by simp) ?_; (case hd => rfl); (case hg => rfl); (case hr => first | (go_simp; done) | (go_simp; rfl)); (case hp => exact (Reps.c7 (show Kd.M k40 _ _ _ (⟨a2_0, (⟨a2_1, a2_2⟩ : S36), a2_3, (⟨a2_4, a2_5, a2_6⟩ : S38)⟩ : S40) [.int .i32 a2_0, .int .i32 a2_1, .int .i32 a2_2, .int .u8 a2_3, .int .u8 a2_4, .int .u8 a2_5, .int .u8 a2_6] from (k40_mkM _ _ _ (⟨a2_0, (⟨a2_1, a2_2⟩ : S36), a2_3, (⟨a2_4, a2_5, a2_6⟩ : S38)⟩ : S40) )) (Reps.c7 (show Kd.M k40 _ _ _ (⟨t129, (⟨t130, t131⟩ : S36), t132, (⟨t133, t134, t135⟩ : S38)⟩ : S40) [.int .i32 t129, .int .i32 t130, .int .i32 t131, .int .u8 t132, .int .u8 t133, .int .u8 t134, .int .u8 t135] from (k40_mkM _ _ _ (⟨t129, (⟨t130, t131⟩ : S36), t132, (⟨t133, t134, t135⟩ : S38)⟩ : S40) )) (Reps.none _ _))))
     intro v137 w30 ho31 hb hg_ hnew_
     clear hg_ hnew_
     (first | rw [← Ny136.out] at ho31 | (simp only [Int.reduceToNat] at ho31; rw [← Ny136.out] at ho31))
     have HO138 := aS (Kd.R_lower (Kd.R_newB ho31 (kb BK124)) (below_size bS))
     replace BK124 := aS (blk_below (kb BK124) hb)
     replace HB := aS (below_step bS hb)
     clear hb ho31
     obtain ⟨Ao32, co32, eo32⟩ := Kd.R_slice HO138.out
     (first | subst eo32 | (injection eo32 with f1_ f2_ f3_; have f4_ := f1_.symm; have f5_ := f3_.symm; clear f1_ f2_ f3_; subst f4_; subst f5_))
     refine hK.out _ _ (c7 BK124.out) (fun hHeld => ?_)
     clear hK K
     refine nm ?_
     refine st1 6 (some 47) (tb 9 127) (fun K hK => ?_)
     refine gO Tryz.func90 #[.slice A0 l0.length c0, .int .i64 a1, .slice Ao32 y136.length co32] ?_
     with_reducible refine (line_laid.calls _ _ l0 a1 _ _ y136 t139 _ ?side1 ?side2 ?side3 ?side4 A26.out).mono ?_
     (case side1 => repeat (first | exact (Kd.C_below HR0.out HB.out) | (with_reducible refine Kd.C_alloc ?_ _) | (with_reducible refine Kd.C_drewN ?_ _) | (with_reducible refine Kd.C_drew ?_)))
     (case side2 => exact HC0.out)
     (case side3 => exact rC (Kd.R_reads' HO138.out))
     (case side4 => exact (Kd.R_reads' HO138.out).2.1)
     rintro e w33 ⟨v140, rfl, ho0, hb⟩
     refine ⟨_, rfl, ?_⟩
     have HO141 := aS (Kd.R_lower (Kd.R_newB (Kd.R_new' ho0 (Kd.R_lt (rr HO138))) (kb BK124)) (below_size bS))
     replace HO138 := aS (Kd.R_elder' (rr HO138) (Kd.R_base ho0) hb)
     replace BK124 := aS (blk_below (kb BK124) hb)
     replace HB := aS (below_step bS hb)
     (try clear hb)
     (try clear hb2)
     (try clear hk)
     (try clear hi)
     (try clear ho0)
     refine hK.out _ _ (c7 BK124.out) (fun hHeld => ?_)
     clear hK K
     refine nm ?_
     refine tp 7 (some 6) (tb 9 255) ?_
     refine tp 8 (some 7) (tb 9 511) ?_
     refine done_ (done_of HT_.out (by kernel_rfl)) ?_
     try go_wp2
     go_ret2
     exact ⟨_, by first | rfl | (simp <;> rfl) | (simp [*] <;> rfl), by (with_reducible repeat (first | apply rA | apply rN | apply rD)); exact Kd.R_mono HO141.out (fun _ hk => trivial), bS⟩
    ·rw [if_neg c24] at H
     have c24b0 : (a2_3 == 2) = false := beq_eq_false_iff_ne.mpr c24
     have c24b1 : (a2_3 != 2) = true := bne_iff_ne.mpr c24
     obtain ⟨y142, hy142⟩ : ∃ y_ : List (S40), y_ = (([(⟨a2_0, (⟨a2_1, a2_2⟩ : S36), a2_3, (⟨a2_4, a2_5, a2_6⟩ : S38)⟩ : S40)] : List (S40))) := ⟨_, rfl⟩
     replace H : ((line_laid.f l0 a1 y142).bind fun t145 => (some (t145, true))) = some (r1, r2) := rq hy142 H
     have Ny142 := aS hy142
     clear hy142
     replace H := Option.bind_eq_some_iff.mp H
     obtain ⟨t145, A340, H⟩ := H
     try dsimp only at H
     have A34 := aS A340
     clear A340
     simp only [Option.some.injEq, Prod.mk.injEq] at H
     obtain ⟨rfl, rfl⟩ := H
     have hz35 := cel7 BK124.out
     go_wp2_with (first | ((with_reducible refine gate_dst (N := 51) rfl ?_); (try (refine gate_guard (by rfl) ?_; dsimp only)); refine Kd.R_lit k40 _ 40 ?hg (N := 51) ?hd (xs := ([(⟨a2_0, (⟨a2_1, a2_2⟩ : S36), a2_3, (⟨a2_4, a2_5, a2_6⟩ : S38)⟩ : S40)] : List (S40))) (inner := [.int .i32 a2_0, .int .i32 a2_1, .int .i32 a2_2, .int .u8 a2_3, .int .u8 a2_4, .int .u8 a2_5, .int .u8 a2_6]) (ok := fun _ => True) (okp := fun _ => True) ?hr ?hp (fun _ hk => hk) trivial (Below.refl _ _) (Nat.le_refl _) (by simp) ?_; (case hd => rfl); (case hg => rfl); (case hr => first | (go_simp; done) | (go_simp; rfl)); (case hp => exact (Reps.c7 (show Kd.M k40 _ _ _ (⟨a2_0, (⟨a2_1, a2_2⟩ : S36), a2_3, (⟨a2_4, a2_5, a2_6⟩ : S38)⟩ : S40) [.int .i32 a2_0, .int .i32 a2_1, .int .i32 a2_2, .int .u8 a2_3, .int .u8 a2_4, .int .u8 a2_5, .int .u8 a2_6] from (k40_mkM _ _ _ (⟨a2_0, (⟨a2_1, a2_2⟩ : S36), a2_3, (⟨a2_4, a2_5, a2_6⟩ : S38)⟩ : S40) )) (Reps.none _ _))); intro v143 w36 ho37 hb hg_ hnew_; clear hg_ hnew_; (first | rw [← Ny142.out] at ho37 | (simp only [Int.reduceToNat] at ho37; rw [← Ny142.out] at ho37)); have HO144 := aS (Kd.R_lower (Kd.R_newB ho37 (kb BK124)) (below_size bS)); replace BK124 := aS (blk_below (kb BK124) hb); replace HB := aS (below_step bS hb); clear hb ho37; obtain ⟨Ao38, co38, eo38⟩ := Kd.R_slice HO144.out; subst eo38) | (refine gL 90 52 Tryz.func90 #[.slice A0 l0.length c0, .int .i64 a1, .slice Ao38 y142.length co38] ?_; (with_reducible refine (line_laid.calls _ _ l0 a1 _ _ y142 t145 _ ?side1 ?side2 ?side3 ?side4 A34.out).mono ?_); (case side1 => repeat (first | exact (Kd.C_below HR0.out HB.out) | (with_reducible refine Kd.C_alloc ?_ _) | (with_reducible refine Kd.C_drewN ?_ _) | (with_reducible refine Kd.C_drew ?_))); (case side2 => exact HC0.out); (case side3 => exact rC (Kd.R_reads' HO144.out)); (case side4 => exact (Kd.R_reads' HO144.out).2.1); rintro e w39 ⟨v146, rfl, ho0, hb⟩; refine ⟨_, rfl, ?_⟩; have HO147 := aS (Kd.R_lower (Kd.R_newB (Kd.R_new' ho0 (Kd.R_lt (rr HO144))) (kb BK124)) (below_size bS)); replace HO144 := aS (Kd.R_elder' (rr HO144) (Kd.R_base ho0) hb); replace BK124 := aS (blk_below (kb BK124) hb); replace HB := aS (below_step bS hb); (try clear hb); (try clear hb2); (try clear hk); (try clear hi); (try clear ho0)))
     go_ret2
     exact ⟨_, by first | rfl | (simp <;> rfl) | (simp [*] <;> rfl), by (with_reducible repeat (first | apply rA | apply rN | apply rD)); exact Kd.R_mono HO147.out (fun _ hk => trivial), bS⟩
def width_Mark.f (a0 : Int) : Option (Bool) := (width_Of.f a0).bind fun t148 => (some (t148 == 0))
set_option maxHeartbeats 8000000 in
set_option maxRecDepth 100000 in
theorem width_Mark.calls (a0 : Int) (r : Bool) (w : World) (h : width_Mark.f a0 = some r) :
 Calls Tryz.prog 102 #[.int .i32 a0] w fun e w' => e = .returned (.bool r) ∧ Below w.heap.size w w' := by
 have HB := aS (Below.refl w.heap.size w)
 have H : ((width_Of.f a0).bind fun t148 => (some (t148 == 0))) = some r := h
 clear h
 replace H := Option.bind_eq_some_iff.mp H
 obtain ⟨t148, A20, H⟩ := H
 try dsimp only at H
 have A2 := aS A20
 clear A20
 obtain rfl := Option.some.inj H
 go_enter Tryz.func102, Tryz.ntmps102
 go_wp2_with (first | (refine gL 55 4 Tryz.func55 #[.int .i32 a0] ?_; (with_reducible refine (width_Of.calls a0 t148 _ A2.out).mono ?_); rintro e w3 ⟨rfl, hb⟩; refine ⟨_, rfl, ?_⟩; replace HB := aS (below_step bB hb); (try clear hb); (try clear hb2); (try clear hk); (try clear hi)))
 go_ret
 exact ⟨by first | rfl | (simp <;> rfl) | (simp [*] <;> rfl), bB⟩
end Go.Proofs.YtblcmcdifgclcaaGreat.PGridPlays
