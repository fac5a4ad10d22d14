/- GridPlays: what its proof leads to. No condition. -/
import Derived.Test.YtblcmcdifgclcaaGreatG10qGridPlays
import Derived.Test.YtblcmcdifgclcaaGreatG7qGridPlays
import Derived.Deep.RegionHeld3
import Derived.Laws.EntriesVeiled
import Derived.BigQuiet
import Derived.Deep.QuietTactic
import Derived.Test.YtblcmcdifgclcaaGreatG4qGridPlays
import Derived.Test.YtblcmcdifgclcaaGreatG6qGridPlays
namespace Go.Proofs.YtblcmcdifgclcaaGreat
open Go.RowKit Go.Proofs.YtblcmcdifgclcaaGreatW.PrintWords Go.Proofs.YtblcmcdifgclcaaGreatW.PrintLast Go.Proofs.YtblcmcdifgclcaaGreatW.PrintMore
set_option linter.unusedVariables false
set_option linter.unusedSimpArgs false
def penR (a b c : Int) : Bool := decide (a < 32) && (decide (b < 17) && decide (c < 17))
def tailC (c1 c2 : Int) : Bool := if c1 = 0 then c2 == 0 else ((wOf c1 == 0) && (c2 == 0 || wOf c2 == 0))
def rightC (c0 c1 c2 c3 c4 c5 c6 : Int) : Bool := penR c4 c5 c6 && (if c3 = 0 then (c0 == 0 && ((c1 == 0 && c2 == 0))) else (decide (c3 ≤ 2) && ((wOf c0 == c3) && tailC c1 c2)))
theorem eqPen (d : Nat) (w : World) (x0 y0 : Int) (x1 y1 : Int) (x2 y2 : Int) :
 (Op.equalIn (d + 2) 38 (.agg #[.int .u8 x0, .int .u8 x1, .int .u8 x2]) (.agg #[.int .u8 y0, .int .u8 y1, .int .u8 y2])).run Tryz.prog w = .ok (x0 == y0 && (x1 == y1 && (x2 == y2))) w := by
 refine eqA_of Tryz.underlying38 (by kernel_rfl) ?_
 refine eqf_cons (by rfl) (by go_simp; rfl) (by go_simp; rfl) (by go_simp) ?_
 refine eqf_cons (by rfl) (by go_simp; rfl) (by go_simp; rfl) (by go_simp) ?_
 exact eqf_last (by rfl) (by go_simp; rfl) (by go_simp; rfl) (by go_simp)
theorem eqArrC (d : Nat) (w : World) (x0 y0 : Int) (x1 y1 : Int) :
 (Op.equalIn (d + 2) 36 (.agg #[.int .i32 x0, .int .i32 x1]) (.agg #[.int .i32 y0, .int .i32 y1])).run Tryz.prog w = .ok (x0 == y0 && (x1 == y1)) w :=
 eqArr2 d 36 21 .i32 Tryz.underlying36 Tryz.underlying21 (by kernel_rfl) x0 y0 x1 y1 w
theorem eqCell (d : Nat) (w : World) (x0 y0 : Int) (x1 y1 : Int) (x2 y2 : Int) (x3 y3 : Int) (x4 y4 : Int) (x5 y5 : Int) (x6 y6 : Int) :
 (Op.equalIn (d + 3) 40 (.agg #[.int .i32 x0, .int .i32 x1, .int .i32 x2, .int .u8 x3, .int .u8 x4, .int .u8 x5, .int .u8 x6]) (.agg #[.int .i32 y0, .int .i32 y1, .int .i32 y2, .int .u8 y3, .int .u8 y4, .int .u8 y5, .int .u8 y6])).run Tryz.prog w = .ok (x0 == y0 && ((x1 == y1 && (x2 == y2)) && (x3 == y3 && ((x4 == y4 && (x5 == y5 && (x6 == y6))))))) w := by
 have hu24 := Tryz.underlying38
 have hu22 := Tryz.underlying36
 refine eqA_of Tryz.underlying40 (by kernel_rfl) ?_
 refine eqf_cons (by rfl) (by go_simp; rfl) (by go_simp; rfl) (by go_simp) ?_
 refine eqf_cons (by rfl) (by go_simp) (by go_simp) (eqArrC (d + 0) w _ _ _ _) ?_
 refine eqf_cons (by rfl) (by go_simp; rfl) (by go_simp; rfl) (by go_simp) ?_
 exact eqf_last (by rfl) (by go_simp) (by go_simp) (eqPen (d + 0) w _ _ _ _ _ _)
theorem box_next' (w : World) (o1 o2 : Obj) : ((w.alloc o1).alloc o2).heap[w.heap.size + 1]? = some o2 := by
 have := blk_new (w.alloc o1) o2
 rwa [show (w.alloc o1).heap.size = w.heap.size + 1 from Array.size_push _] at this
theorem C_nil (W : World) (k : IntKind) (A : Option Addr) : (Kd.int k).C W A ([] : List Int).length [] :=
 Kd.C_of_reads (h1 := fun _ => rfl) (enc := Value.int k) (d := 0) ⟨rfl, by simp, fun h => by simp at h⟩
theorem C_one {W : World} {k : IntKind} {g o : Nat} {a : Int} (h0 : W.cell? ⟨g, o, none⟩ = some (.int k a)) : (Kd.int k).C W (some ⟨g, o, none⟩) [a].length [a] :=
 Kd.C_of_reads (h1 := fun _ => rfl) (enc := Value.int k) (d := 0) ⟨rfl, by simp, fun _ => ⟨⟨g, o, none⟩, rfl, fun j hj => by
  match j, hj with
  | 0, _ => simpa [Addr.add] using h0
  | j + 1, h => exact absurd h (by simp)⟩⟩
def BoxR (w w' : World) (c0 c1 c2 c3 c4 c5 c6 : Int) : Prop :=  w'.cell? ⟨w.heap.size, 0, none⟩ = some (.int .i32 c0) ∧ w'.cell? ⟨w.heap.size, 1, none⟩ = some (.int .i32 c1) ∧ w'.cell? ⟨w.heap.size, 2, none⟩ = some (.int .i32 c2) ∧ w'.cell? ⟨w.heap.size, 3, none⟩ = some (.int .u8 c3) ∧ w'.cell? ⟨w.heap.size, 4, none⟩ = some (.int .u8 c4) ∧ w'.cell? ⟨w.heap.size, 5, none⟩ = some (.int .u8 c5) ∧ w'.cell? ⟨w.heap.size, 6, none⟩ = some (.int .u8 c6) ∧ w'.cell? ⟨w.heap.size + 1, 0, none⟩ = some (.func (.func 98) #[] #[])
theorem BoxR.held {w W W' : World} {c0 c1 c2 c3 c4 c5 c6 : Int} (h : BoxR w W c0 c1 c2 c3 c4 c5 c6) (hb : Below W.heap.size W W') : BoxR w W' c0 c1 c2 c3 c4 c5 c6 := by
 obtain ⟨h0, h1, h2, h3, h4, h5, h6, h7⟩ := h
 exact ⟨(hb.cell (World.block_lt_of_cell? W _ h0)).trans h0, (hb.cell (World.block_lt_of_cell? W _ h1)).trans h1, (hb.cell (World.block_lt_of_cell? W _ h2)).trans h2, (hb.cell (World.block_lt_of_cell? W _ h3)).trans h3, (hb.cell (World.block_lt_of_cell? W _ h4)).trans h4, (hb.cell (World.block_lt_of_cell? W _ h5)).trans h5, (hb.cell (World.block_lt_of_cell? W _ h6)).trans h6, (hb.cell (World.block_lt_of_cell? W _ h7)).trans h7⟩
theorem BoxR.two {w W : World} {c0 c1 c2 c3 c4 c5 c6 : Int} (h : BoxR w W c0 c1 c2 c3 c4 c5 c6) : (Kd.int .i32).C W (some ⟨w.heap.size, 1, none⟩) [c1, c2].length [c1, c2] := by
 obtain ⟨h0, h1, h2, h3, h4, h5, h6, h7⟩ := h
 exact C_two h1 h2
theorem BoxR.one1 {w W : World} {c0 c1 c2 c3 c4 c5 c6 : Int} (h : BoxR w W c0 c1 c2 c3 c4 c5 c6) : (Kd.int .i32).C W (some ⟨w.heap.size, 1, none⟩) [c1].length [c1] := by
 obtain ⟨h0, h1, h2, h3, h4, h5, h6, h7⟩ := h
 exact C_one h1
theorem BoxR.one2 {w W : World} {c0 c1 c2 c3 c4 c5 c6 : Int} (h : BoxR w W c0 c1 c2 c3 c4 c5 c6) : (Kd.int .i32).C W (some ⟨w.heap.size, 2, none⟩) [c2].length [c2] := by
 obtain ⟨h0, h1, h2, h3, h4, h5, h6, h7⟩ := h
 exact C_one h2
theorem BoxR.fn {w W : World} {c0 c1 c2 c3 c4 c5 c6 : Int} (h : BoxR w W c0 c1 c2 c3 c4 c5 c6) : W.cell? ⟨w.heap.size + 1, 0, none⟩ = some (.func (.func 98) #[] #[]) := by
 obtain ⟨h0, h1, h2, h3, h4, h5, h6, h7⟩ := h
 exact h7
theorem box_r (w : World) (c0 c1 c2 c3 c4 c5 c6 : Int) : BoxR w ((w.alloc (.cells #[.int .i32 c0, .int .i32 c1, .int .i32 c2, .int .u8 c3, .int .u8 c4, .int .u8 c5, .int .u8 c6] 40)).alloc (.cells #[(.func (.func 98) #[] #[])] 125)) c0 c1 c2 c3 c4 c5 c6 := by
 have b1 := blk_alloc (blk_new w (.cells #[.int .i32 c0, .int .i32 c1, .int .i32 c2, .int .u8 c3, .int .u8 c4, .int .u8 c5, .int .u8 c6] 40)) (.cells #[(.func (.func 98) #[] #[])] 125)
 have b2 := box_next' w (.cells #[.int .i32 c0, .int .i32 c1, .int .i32 c2, .int .u8 c3, .int .u8 c4, .int .u8 c5, .int .u8 c6] 40) (.cells #[(.func (.func 98) #[] #[])] 125)
 exact ⟨(blk_cell b1 0).trans rfl, (blk_cell b1 1).trans rfl, (blk_cell b1 2).trans rfl, (blk_cell b1 3).trans rfl, (blk_cell b1 4).trans rfl, (blk_cell b1 5).trans rfl, (blk_cell b1 6).trans rfl, (blk_cell b2 0).trans rfl⟩
set_option maxHeartbeats 8000000 in
set_option maxRecDepth 100000 in
theorem right_walk (hPen : ∀ (a b c : Int) (w : World), Calls Tryz.prog 59 #[.agg #[.int .u8 a, .int .u8 b, .int .u8 c]] w fun e w' => e = .returned (.bool (penR a b c)) ∧ Below w.heap.size w w')
 (hRest : ∀ (c0 c1 c2 c3 c4 c5 c6 : Int) (w : World), Calls Tryz.prog 91 #[.agg #[.int .i32 c0, .int .i32 c1, .int .i32 c2, .int .u8 c3, .int .u8 c4, .int .u8 c5, .int .u8 c6]] w fun e w' => e = .returned (.agg #[.int .i32 0, .int .i32 0, .int .i32 0, .int .u8 0, .int .u8 c4, .int .u8 c5, .int .u8 c6]) ∧ Below w.heap.size w w')
 (c0 c1 c2 c3 c4 c5 c6 : Int) (h8 : 0 ≤ c3 ∧ c3 ≤ 255) (w : World) :
 Calls Tryz.prog 82 #[.agg #[.int .i32 c0, .int .i32 c1, .int .i32 c2, .int .u8 c3, .int .u8 c4, .int .u8 c5, .int .u8 c6]] w fun e w' => e = .returned (.bool (rightC c0 c1 c2 c3 c4 c5 c6)) ∧ Below w.heap.size w w' := by
 have hmf : ∀ (fn : Fn) (first cap : Array Value) (w : World), (Instr.makeFunc fn first cap).run Tryz.prog w = .ok (.func fn first cap) w := fun _ _ _ _ => rfl
 have hu26 := Tryz.underlying40
 have hu24 := Tryz.underlying38
 have hu22 := Tryz.underlying36
 have hu122 := Tryz.underlying125
 have HP := aS hPen
 have HRS := aS hRest
 clear hPen hRest
 obtain ⟨res, hres⟩ : ∃ b, rightC c0 c1 c2 c3 c4 c5 c6 = b := ⟨_, rfl⟩
 rw [hres]
 obtain ⟨bp, hbp⟩ : ∃ b, penR c4 c5 c6 = b := ⟨_, rfl⟩
 have HR := aS hres
 have HBP := aS hbp
 have H8 := aS h8
 clear hres hbp h8
 cases bp
 ·have hr := aS (show res = false by rw [← HR.out, rightC, HBP.out]; rfl)
  go_enter Tryz.func82, Tryz.ntmps82
  go_wp2_with (go_at_call 59; refine (HP.out c4 c5 c6 _).mono ?_; rintro e w1 ⟨rfl, hb⟩; rw [HBP.out]; have BX := aS (BoxR.held (w := w) (c0 := c0) (c1 := c1) (c2 := c2) (c3 := c3) (c4 := c4) (c5 := c5) (c6 := c6) (box_r w c0 c1 c2 c3 c4 c5 c6) hb); have HB := aS (below_step (below_alloc (below_alloc (Below.refl _ _) _) _) hb); clear hb; obtain ⟨k0, k1, k2, k3, k4, k5, k6, k7⟩ := BX.out)
  go_ret
  exact ⟨by rw [hr.out]; rfl, HB.out⟩
 ·by_cases h0 : c3 = 0
  ·have hb0 : (c3 == 0) = true := by simp [h0]
   have heq := fun (d : Nat) (W : World) => eqCell d W c0 0 c1 0 c2 0 c3 0 c4 c4 c5 c5 c6 c6
   have hr := aS (show (c0 == 0 && (c1 == 0 && c2 == 0)) = res by rw [← HR.out, rightC, HBP.out, if_pos h0]; rfl)
   clear h0
   go_enter Tryz.func82, Tryz.ntmps82
   go_wp2_with (go_at_call 59; refine (HP.out c4 c5 c6 _).mono ?_; rintro e w1 ⟨rfl, hb⟩; rw [HBP.out]; have BX := aS (BoxR.held (w := w) (c0 := c0) (c1 := c1) (c2 := c2) (c3 := c3) (c4 := c4) (c5 := c5) (c6 := c6) (box_r w c0 c1 c2 c3 c4 c5 c6) hb); have HB := aS (below_step (below_alloc (below_alloc (Below.refl _ _) _) _) hb); clear hb; obtain ⟨k0, k1, k2, k3, k4, k5, k6, k7⟩ := BX.out)
   clear k0 k1 k2 k3 k4 k5 k6 k7
   go_region_held3 (fun w' =>  w'.cell? ⟨w.heap.size, 0, none⟩ = some (.int .i32 c0) ∧ w'.cell? ⟨w.heap.size, 1, none⟩ = some (.int .i32 c1) ∧ w'.cell? ⟨w.heap.size, 2, none⟩ = some (.int .i32 c2) ∧ w'.cell? ⟨w.heap.size, 3, none⟩ = some (.int .u8 c3) ∧ w'.cell? ⟨w.heap.size, 4, none⟩ = some (.int .u8 c4) ∧ w'.cell? ⟨w.heap.size, 5, none⟩ = some (.int .u8 c5) ∧ w'.cell? ⟨w.heap.size, 6, none⟩ = some (.int .u8 c6) ∧ w'.cell? ⟨w.heap.size + 1, 0, none⟩ = some (.func (.func 98) #[] #[])) (first | exact BX.out.held (below_step bE HD.out) | exact BX.out.held bE) (first | (go_at_call 91; (refine (HRS.out c0 c1 c2 c3 c4 c5 c6 _).mono ?_); rintro e w2 ⟨rfl, hbb⟩; have HD := aS hbb; clear hbb))
   all_goals go_wp2
   all_goals go_ret
   all_goals exact ⟨by rw [← hr.out]; rfl, below_step (below_step HB.out bE) HD.out⟩
  ·have hb0 : (c3 == 0) = false := by simp [h0]
   have HH0 := aS h0
   clear h0
   obtain ⟨b2, hb2⟩ : ∃ b, decide (2 < c3) = b := ⟨_, rfl⟩
   obtain ⟨bw, hbw⟩ : ∃ b, (wOf c0 != c3) = b := ⟨_, rfl⟩
   have HB2 := aS hb2
   have HBW := aS hbw
   cases b2
   case true =>
    have hr := aS (show res = false by rw [← HR.out, rightC, HBP.out, if_neg HH0.out, show decide (c3 ≤ 2) = false by (have := of_decide_eq_true HB2.out; simp; omega)]; simp)
    clear hbw
    go_enter Tryz.func82, Tryz.ntmps82
    go_wp2_with (go_at_call 59; refine (HP.out c4 c5 c6 _).mono ?_; rintro e w1 ⟨rfl, hb⟩; rw [HBP.out]; have BX := aS (BoxR.held (w := w) (c0 := c0) (c1 := c1) (c2 := c2) (c3 := c3) (c4 := c4) (c5 := c5) (c6 := c6) (box_r w c0 c1 c2 c3 c4 c5 c6) hb); have HB := aS (below_step (below_alloc (below_alloc (Below.refl _ _) _) _) hb); clear hb; obtain ⟨k0, k1, k2, k3, k4, k5, k6, k7⟩ := BX.out)
    refine start_ (n := 12) (S := fun w' => w'.cell? ⟨w.heap.size, 3, none⟩ = some (.int .u8 c3)) (ds := []) (tb 12 0) (by kernel_rfl) rfl rfl (k3) (fun hHeld => ?_)
    refine tP 0 (some 16) (tb 12 1) ?_
    refine take_ (i := 1) (N := some 17) (v := ?_) (a' := ?_) (tb 12 3) rfl rfl (by kernel_rfl) (fun _ _ _ h => h) (Or.inl ⟨by rfl, ?_⟩) hHeld ?_ ?_
    rotate_left
    ·intro w' s0
     go_simp
     with_reducible rfl
    rotate_left
    ·simp only [Act.put, List.setIfInBounds_toArray, List.set_cons_zero, List.set_cons_succ, i64_w, i32_w]
     rfl
    refine tP 2 (some 18) (tb 12 7) ?_
    refine tP 3 (some 19) (tb 12 15) ?_
    refine tU 4 (some 20) (tb 12 31) ?_
    refine tU 5 (some 21) (tb 12 63) ?_
    refine tU 6 (some 22) (tb 12 127) ?_
    refine tU 7 (some 23) (tb 12 255) ?_
    refine tU 8 (some 24) (tb 12 511) ?_
    refine tU 9 (some 25) (tb 12 1023) ?_
    refine tU 10 (some 26) (tb 12 2047) ?_
    refine tP 11 (some 27) (tb 12 4095) ?_
    refine done_ (by kernel_rfl) ?_
    all_goals go_wp2
    all_goals go_ret
    all_goals exact ⟨by rw [hr.out]; rfl, below_step HB.out bE⟩
   case false =>
    cases bw
    case true =>
     have hr := aS (show res = false by
      have := HBW.out
      rw [← HR.out, rightC, HBP.out, if_neg HH0.out, show (wOf c0 == c3) = false by simpa using this]; simp)
     have hcv : IntKind.i64.wrap c3 = c3 := by rw [IntKind.wrap_i64]; have := H8.out; omega
     go_enter Tryz.func82, Tryz.ntmps82
     go_wp2_with (go_at_call 59; refine (HP.out c4 c5 c6 _).mono ?_; rintro e w1 ⟨rfl, hb⟩; rw [HBP.out]; have BX := aS (BoxR.held (w := w) (c0 := c0) (c1 := c1) (c2 := c2) (c3 := c3) (c4 := c4) (c5 := c5) (c6 := c6) (box_r w c0 c1 c2 c3 c4 c5 c6) hb); have HB := aS (below_step (below_alloc (below_alloc (Below.refl _ _) _) _) hb); clear hb; obtain ⟨k0, k1, k2, k3, k4, k5, k6, k7⟩ := BX.out)
     clear k0 k1 k2 k3 k4 k5 k6 k7
     go_region_held3 (fun w' =>  w'.cell? ⟨w.heap.size, 0, none⟩ = some (.int .i32 c0) ∧ w'.cell? ⟨w.heap.size, 1, none⟩ = some (.int .i32 c1) ∧ w'.cell? ⟨w.heap.size, 2, none⟩ = some (.int .i32 c2) ∧ w'.cell? ⟨w.heap.size, 3, none⟩ = some (.int .u8 c3) ∧ w'.cell? ⟨w.heap.size, 4, none⟩ = some (.int .u8 c4) ∧ w'.cell? ⟨w.heap.size, 5, none⟩ = some (.int .u8 c5) ∧ w'.cell? ⟨w.heap.size, 6, none⟩ = some (.int .u8 c6) ∧ w'.cell? ⟨w.heap.size + 1, 0, none⟩ = some (.func (.func 98) #[] #[])) (first | exact BX.out.held (below_step bE HD.out) | exact BX.out.held bE) (first | (go_at_call 55; (refine (Of_any c0 _).mono ?_); rintro e w2 ⟨rfl, hbb⟩; have HD := aS hbb; clear hbb))
     all_goals go_wp2
     all_goals go_ret
     all_goals exact ⟨by rw [hr.out]; rfl, below_step (below_step HB.out bE) HD.out⟩
    case false =>
     have hcv : IntKind.i64.wrap c3 = c3 := by rw [IntKind.wrap_i64]; have := H8.out; omega
     have hr := aS (show tailC c1 c2 = res by
      have h1 := HBW.out
      have h2 := of_decide_eq_false HB2.out
      rw [← HR.out, rightC, HBP.out, if_neg HH0.out, show (wOf c0 == c3) = true by simpa using h1, show decide (c3 ≤ 2) = true by simp; omega]; simp)
     by_cases h1 : c1 = 0
     ·have HZ := aS (show idxF (fun r => r == 0) [c1, c2] = 0 by simp [idxF, h1])
      obtain ⟨bA, hA⟩ : ∃ b, decide (0 ≤ idxF (fun r => !(wOf r == 0)) []) = b := ⟨_, rfl⟩
      obtain ⟨bB, hB⟩ : ∃ b, decide (0 ≤ idxF (fun r => !(r == 0)) [c1, c2]) = b := ⟨_, rfl⟩
      have HA := aS hA
      have HBB := aS hB
      have hfin := aS (show (!bA && !bB) = res by rw [← hr.out, ← hA, ← hB]; unfold tailC; rw [if_pos h1]; by_cases h2 : c2 = 0 <;> simp [idxF, h1, h2])
      clear hA hB h1
      cases bA <;> cases bB <;> (go_enter Tryz.func82, Tryz.ntmps82; go_wp2_with (go_at_call 59; refine (HP.out c4 c5 c6 _).mono ?_; rintro e w1 ⟨rfl, hb⟩; rw [HBP.out]; have BX := aS (BoxR.held (w := w) (c0 := c0) (c1 := c1) (c2 := c2) (c3 := c3) (c4 := c4) (c5 := c5) (c6 := c6) (box_r w c0 c1 c2 c3 c4 c5 c6) hb); have HB := aS (below_step (below_alloc (below_alloc (Below.refl _ _) _) _) hb); clear hb; obtain ⟨k0, k1, k2, k3, k4, k5, k6, k7⟩ := BX.out); clear k0 k1 k2 k3 k4 k5 k6 k7; go_region_held3 (fun w' =>  w'.cell? ⟨w.heap.size, 0, none⟩ = some (.int .i32 c0) ∧ w'.cell? ⟨w.heap.size, 1, none⟩ = some (.int .i32 c1) ∧ w'.cell? ⟨w.heap.size, 2, none⟩ = some (.int .i32 c2) ∧ w'.cell? ⟨w.heap.size, 3, none⟩ = some (.int .u8 c3) ∧ w'.cell? ⟨w.heap.size, 4, none⟩ = some (.int .u8 c4) ∧ w'.cell? ⟨w.heap.size, 5, none⟩ = some (.int .u8 c5) ∧ w'.cell? ⟨w.heap.size, 6, none⟩ = some (.int .u8 c6) ∧ w'.cell? ⟨w.heap.size + 1, 0, none⟩ = some (.func (.func 98) #[] #[])) (first | exact BX.out.held (below_step bE HD.out) | exact BX.out.held bE) (first | (go_at_call 55; (refine (Of_any c0 _).mono ?_); rintro e w2 ⟨rfl, hbb⟩; have HD := aS hbb; clear hbb)))
      all_goals go_wp2
      all_goals (have BX2 := aS (BX.out.held (below_step bE HD.out)); have HG2 := aS (below_step (below_step HB.out bE) HD.out); clear BX HB HD)
      all_goals go_region_held3 (fun w' =>  w'.cell? ⟨w.heap.size, 0, none⟩ = some (.int .i32 c0) ∧ w'.cell? ⟨w.heap.size, 1, none⟩ = some (.int .i32 c1) ∧ w'.cell? ⟨w.heap.size, 2, none⟩ = some (.int .i32 c2) ∧ w'.cell? ⟨w.heap.size, 3, none⟩ = some (.int .u8 c3) ∧ w'.cell? ⟨w.heap.size, 4, none⟩ = some (.int .u8 c4) ∧ w'.cell? ⟨w.heap.size, 5, none⟩ = some (.int .u8 c5) ∧ w'.cell? ⟨w.heap.size, 6, none⟩ = some (.int .u8 c6) ∧ w'.cell? ⟨w.heap.size + 1, 0, none⟩ = some (.func (.func 98) #[] #[])) (first | exact BX2.out.held (below_step bE HD2.out) | exact BX2.out.held bE) (first | (go_at_call 99; (refine (IndexFunc_none (some ⟨w.heap.size, 1, none⟩) 2 [c1, c2] _ (BX2.out.held bE).two (by simp)).mono ?_); rintro e w3 ⟨rfl, hbb⟩; rw [HZ.out]; have HD2 := aS hbb; clear hbb))
      all_goals (have BX3 := aS (BX2.out.held (below_step bE HD2.out)); have HG3 := aS (below_step (below_step HG2.out bE) HD2.out); clear BX2 HG2 HD2)
      all_goals go_wp2_with (first | (go_at_call 100; refine (ContainsFunc_notmark (some ⟨w.heap.size, 1, none⟩) 2 [] _ (C_nil _ _ _) (by simp)).mono ?_; rintro e w4 ⟨rfl, hbb⟩; rw [HA.out]; have HD4 := aS hbb; clear hbb) | (go_at_call 100; refine (ContainsFunc_notnone (w.heap.size + 1) (some ⟨w.heap.size, 1, none⟩) _ [c1, c2] _ (BX3.out.held HD4.out).two (by simp) (BX3.out.held HD4.out).fn).mono ?_; rintro e w5 ⟨rfl, hbb⟩; rw [HBB.out]; have HD5 := aS hbb; clear hbb))
      all_goals go_ret
      all_goals first | exact ⟨by rw [← hfin.out]; rfl, below_step (below_step HG3.out HD4.out) HD5.out⟩ | exact ⟨by rw [← hfin.out]; rfl, below_step HG3.out HD4.out⟩
     ·by_cases h2 : c2 = 0
      ·have HZ := aS (show idxF (fun r => r == 0) [c1, c2] = 1 by simp [idxF, h1, h2])
       obtain ⟨bA, hA⟩ : ∃ b, decide (0 ≤ idxF (fun r => !(wOf r == 0)) [c1]) = b := ⟨_, rfl⟩
       obtain ⟨bB, hB⟩ : ∃ b, decide (0 ≤ idxF (fun r => !(r == 0)) [c2]) = b := ⟨_, rfl⟩
       have HA := aS hA
       have HBB := aS hB
       have hfin := aS (show (!bA && !bB) = res by rw [← hr.out, ← hA, ← hB]; unfold tailC; rw [if_neg h1]; by_cases hw : wOf c1 = 0 <;> simp [idxF, h2, hw])
       clear hA hB h1 h2
       cases bA <;> cases bB <;> (go_enter Tryz.func82, Tryz.ntmps82; go_wp2_with (go_at_call 59; refine (HP.out c4 c5 c6 _).mono ?_; rintro e w1 ⟨rfl, hb⟩; rw [HBP.out]; have BX := aS (BoxR.held (w := w) (c0 := c0) (c1 := c1) (c2 := c2) (c3 := c3) (c4 := c4) (c5 := c5) (c6 := c6) (box_r w c0 c1 c2 c3 c4 c5 c6) hb); have HB := aS (below_step (below_alloc (below_alloc (Below.refl _ _) _) _) hb); clear hb; obtain ⟨k0, k1, k2, k3, k4, k5, k6, k7⟩ := BX.out); clear k0 k1 k2 k3 k4 k5 k6 k7; go_region_held3 (fun w' =>  w'.cell? ⟨w.heap.size, 0, none⟩ = some (.int .i32 c0) ∧ w'.cell? ⟨w.heap.size, 1, none⟩ = some (.int .i32 c1) ∧ w'.cell? ⟨w.heap.size, 2, none⟩ = some (.int .i32 c2) ∧ w'.cell? ⟨w.heap.size, 3, none⟩ = some (.int .u8 c3) ∧ w'.cell? ⟨w.heap.size, 4, none⟩ = some (.int .u8 c4) ∧ w'.cell? ⟨w.heap.size, 5, none⟩ = some (.int .u8 c5) ∧ w'.cell? ⟨w.heap.size, 6, none⟩ = some (.int .u8 c6) ∧ w'.cell? ⟨w.heap.size + 1, 0, none⟩ = some (.func (.func 98) #[] #[])) (first | exact BX.out.held (below_step bE HD.out) | exact BX.out.held bE) (first | (go_at_call 55; (refine (Of_any c0 _).mono ?_); rintro e w2 ⟨rfl, hbb⟩; have HD := aS hbb; clear hbb)))
       all_goals go_wp2
       all_goals (have BX2 := aS (BX.out.held (below_step bE HD.out)); have HG2 := aS (below_step (below_step HB.out bE) HD.out); clear BX HB HD)
       all_goals go_region_held3 (fun w' =>  w'.cell? ⟨w.heap.size, 0, none⟩ = some (.int .i32 c0) ∧ w'.cell? ⟨w.heap.size, 1, none⟩ = some (.int .i32 c1) ∧ w'.cell? ⟨w.heap.size, 2, none⟩ = some (.int .i32 c2) ∧ w'.cell? ⟨w.heap.size, 3, none⟩ = some (.int .u8 c3) ∧ w'.cell? ⟨w.heap.size, 4, none⟩ = some (.int .u8 c4) ∧ w'.cell? ⟨w.heap.size, 5, none⟩ = some (.int .u8 c5) ∧ w'.cell? ⟨w.heap.size, 6, none⟩ = some (.int .u8 c6) ∧ w'.cell? ⟨w.heap.size + 1, 0, none⟩ = some (.func (.func 98) #[] #[])) (first | exact BX2.out.held (below_step bE HD2.out) | exact BX2.out.held bE) (first | (go_at_call 99; (refine (IndexFunc_none (some ⟨w.heap.size, 1, none⟩) 2 [c1, c2] _ (BX2.out.held bE).two (by simp)).mono ?_); rintro e w3 ⟨rfl, hbb⟩; rw [HZ.out]; have HD2 := aS hbb; clear hbb))
       all_goals (have BX3 := aS (BX2.out.held (below_step bE HD2.out)); have HG3 := aS (below_step (below_step HG2.out bE) HD2.out); clear BX2 HG2 HD2)
       all_goals go_wp2_with (first | (go_at_call 100; refine (ContainsFunc_notmark (some ⟨w.heap.size, 1, none⟩) 2 [c1] _ BX3.out.one1 (by simp)).mono ?_; rintro e w4 ⟨rfl, hbb⟩; rw [HA.out]; have HD4 := aS hbb; clear hbb) | (go_at_call 100; refine (ContainsFunc_notnone (w.heap.size + 1) (some ⟨w.heap.size, 2, none⟩) _ [c2] _ (BX3.out.held HD4.out).one2 (by simp) (BX3.out.held HD4.out).fn).mono ?_; rintro e w5 ⟨rfl, hbb⟩; rw [HBB.out]; have HD5 := aS hbb; clear hbb))
       all_goals go_ret
       all_goals first | exact ⟨by rw [← hfin.out]; rfl, below_step (below_step HG3.out HD4.out) HD5.out⟩ | exact ⟨by rw [← hfin.out]; rfl, below_step HG3.out HD4.out⟩
      ·have HZ := aS (show idxF (fun r => r == 0) [c1, c2] = -1 by simp [idxF, h1, h2])
       obtain ⟨bA, hA⟩ : ∃ b, decide (0 ≤ idxF (fun r => !(wOf r == 0)) [c1, c2]) = b := ⟨_, rfl⟩
       obtain ⟨bB, hB⟩ : ∃ b, decide (0 ≤ idxF (fun r => !(r == 0)) []) = b := ⟨_, rfl⟩
       have HA := aS hA
       have HBB := aS hB
       have hfin := aS (show (!bA && !bB) = res by rw [← hr.out, ← hA, ← hB]; unfold tailC; rw [if_neg h1]; by_cases hw : wOf c1 = 0 <;> by_cases hv : wOf c2 = 0 <;> simp [idxF, h2, hw, hv])
       clear hA hB h1 h2
       cases bA <;> cases bB <;> (go_enter Tryz.func82, Tryz.ntmps82; go_wp2_with (go_at_call 59; refine (HP.out c4 c5 c6 _).mono ?_; rintro e w1 ⟨rfl, hb⟩; rw [HBP.out]; have BX := aS (BoxR.held (w := w) (c0 := c0) (c1 := c1) (c2 := c2) (c3 := c3) (c4 := c4) (c5 := c5) (c6 := c6) (box_r w c0 c1 c2 c3 c4 c5 c6) hb); have HB := aS (below_step (below_alloc (below_alloc (Below.refl _ _) _) _) hb); clear hb; obtain ⟨k0, k1, k2, k3, k4, k5, k6, k7⟩ := BX.out); clear k0 k1 k2 k3 k4 k5 k6 k7; go_region_held3 (fun w' =>  w'.cell? ⟨w.heap.size, 0, none⟩ = some (.int .i32 c0) ∧ w'.cell? ⟨w.heap.size, 1, none⟩ = some (.int .i32 c1) ∧ w'.cell? ⟨w.heap.size, 2, none⟩ = some (.int .i32 c2) ∧ w'.cell? ⟨w.heap.size, 3, none⟩ = some (.int .u8 c3) ∧ w'.cell? ⟨w.heap.size, 4, none⟩ = some (.int .u8 c4) ∧ w'.cell? ⟨w.heap.size, 5, none⟩ = some (.int .u8 c5) ∧ w'.cell? ⟨w.heap.size, 6, none⟩ = some (.int .u8 c6) ∧ w'.cell? ⟨w.heap.size + 1, 0, none⟩ = some (.func (.func 98) #[] #[])) (first | exact BX.out.held (below_step bE HD.out) | exact BX.out.held bE) (first | (go_at_call 55; (refine (Of_any c0 _).mono ?_); rintro e w2 ⟨rfl, hbb⟩; have HD := aS hbb; clear hbb)))
       all_goals go_wp2
       all_goals (have BX2 := aS (BX.out.held (below_step bE HD.out)); have HG2 := aS (below_step (below_step HB.out bE) HD.out); clear BX HB HD)
       all_goals go_region_held3 (fun w' =>  w'.cell? ⟨w.heap.size, 0, none⟩ = some (.int .i32 c0) ∧ w'.cell? ⟨w.heap.size, 1, none⟩ = some (.int .i32 c1) ∧ w'.cell? ⟨w.heap.size, 2, none⟩ = some (.int .i32 c2) ∧ w'.cell? ⟨w.heap.size, 3, none⟩ = some (.int .u8 c3) ∧ w'.cell? ⟨w.heap.size, 4, none⟩ = some (.int .u8 c4) ∧ w'.cell? ⟨w.heap.size, 5, none⟩ = some (.int .u8 c5) ∧ w'.cell? ⟨w.heap.size, 6, none⟩ = some (.int .u8 c6) ∧ w'.cell? ⟨w.heap.size + 1, 0, none⟩ = some (.func (.func 98) #[] #[])) (first | exact BX2.out.held (below_step bE HD2.out) | exact BX2.out.held bE) (first | (go_at_call 99; (refine (IndexFunc_none (some ⟨w.heap.size, 1, none⟩) 2 [c1, c2] _ (BX2.out.held bE).two (by simp)).mono ?_); rintro e w3 ⟨rfl, hbb⟩; rw [HZ.out]; have HD2 := aS hbb; clear hbb))
       all_goals (have BX3 := aS (BX2.out.held (below_step bE HD2.out)); have HG3 := aS (below_step (below_step HG2.out bE) HD2.out); clear BX2 HG2 HD2)
       all_goals go_wp2_with (first | (go_at_call 100; refine (ContainsFunc_notmark (some ⟨w.heap.size, 1, none⟩) 2 [c1, c2] _ BX3.out.two (by simp)).mono ?_; rintro e w4 ⟨rfl, hbb⟩; rw [HA.out]; have HD4 := aS hbb; clear hbb) | (go_at_call 100; refine (ContainsFunc_notnone (w.heap.size + 1) _ _ [] _ (C_nil _ _ _) (by simp) (BX3.out.held HD4.out).fn).mono ?_; rintro e w5 ⟨rfl, hbb⟩; rw [HBB.out]; have HD5 := aS hbb; clear hbb))
       all_goals go_ret
       all_goals first | exact ⟨by rw [← hfin.out]; rfl, below_step (below_step HG3.out HD4.out) HD5.out⟩ | exact ⟨by rw [← hfin.out]; rfl, below_step HG3.out HD4.out⟩
end Go.Proofs.YtblcmcdifgclcaaGreat
