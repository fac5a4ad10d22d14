/- GridPlays: what its proof leads to. No condition. -/
import Derived.Test.YtblcmcdifgclcaaGreatG6qGridPlays
import Derived.Test.YtblcmcdifgclcaaGreatG23qGridPlays
import Derived.Test.YtblcmcdifgclcaaGreatG24qGridPlays
import Derived.Test.YtblcmcdifgclcaaGreatG34qGridPlays
namespace Go.Proofs.YtblcmcdifgclcaaGreat.Grd
open Go.RowKit Go.Proofs.YtblcmcdifgclcaaGreat Go.Proofs.YtblcmcdifgclcaaGreat.PGridPlays Go.Proofs.YtblcmcdifgclcaaGreatW.PrintWords Go.Proofs.YtblcmcdifgclcaaGreatW.PrintLast Go.Proofs.YtblcmcdifgclcaaGreatW.PrintMore
set_option linter.unusedVariables false
set_option linter.unusedSimpArgs false
set_option maxRecDepth 100000
set_option maxHeartbeats 4000000
attribute [local go_sem] isSome_setCell max2_int min2_int max_two min_two
section
variable {P : Program} {ops : Array Oper} {rest : List Oper} {o : Oper} {a : Act} {Q : Exit → Act → World → Prop}
theorem step_whole {W : World} {g : Nat} {t T : TypeId} {cs cs' : Array Value} (p x : Operand) (hN : o.dst = none) (hgd : o.guard = none) (ho : o.op = .store t p x) (haddr : a.eval p = .pointer (some ⟨g, 0, none⟩)) (hx : a.eval x = .agg cs') (hb : W.heap[g]? = some (.cells cs T (0, 0))) (hsz : cs.size = cs'.size) (ht : (P.info? t).map (·.size) = some cs'.size) (h1 : ∀ q ∈ cs'.toList, q.oneCell' = true)
 (h : ∀ W1, W1.heap[g]? = some (.cells cs' T (0, 0)) → W.grownBy W1 (some g) → wpList P ops Q rest a W1) : wpList P ops Q (o :: rest) a W := by
 refine wpList_plain hgd fun K hK => ?_
 have hrun := run_store_run (P := P) (o := 0) t (.agg cs') cs'.toList hb rfl (by rw [ht]; simp) (by rw [Array.length_toList]; omega) h1
 obtain ⟨cur', h3, h4, h5⟩ := setCells_row cs'.toList 0 W cs hb (by rw [Array.length_toList]; omega)
 have he : cur' = cs' := by
  apply Array.toList_inj.1
  rw [h5, List.take_zero, List.nil_append, Nat.zero_add, List.drop_eq_nil_of_le (by rw [Array.length_toList, Array.length_toList]; omega), List.append_nil]
 rw [he] at h3
 obtain ⟨s1, s2, s3, s4⟩ := setCells_same g cs'.toList 0 W
 unfold Oper.wp execOp
 simp only [ho, haddr, hx, Sem.run_bind, Sem.run_pure, Result.andThen_ok, hrun]
 show K (a.put o.dst undef) _
 rw [hN]
 exact hK a _ (h _ h3 ⟨s1, s2, s3, by rw [s4]; exact Nat.le_refl _, fun k _ hk => setCells_far _ _ k (fun he => hk (by rw [he]))⟩)
theorem whole_step {Kc : Act → World → Prop} {W : World} {g : Nat} {t T : TypeId} {cs cs' : Array Value} (hw : Region.wanted o (yielded ops a.tmps) = true) (p x : Operand) (hN : o.dst = none) (ho : o.op = .store t p x) (haddr : a.eval p = .pointer (some ⟨g, 0, none⟩)) (hx : a.eval x = .agg cs') (hb : W.heap[g]? = some (.cells cs T (0, 0))) (hsz : cs.size = cs'.size) (ht : (P.info? t).map (·.size) = some cs'.size) (h1 : ∀ q ∈ cs'.toList, q.oneCell' = true)
 (h : ∀ W1, W1.heap[g]? = some (.cells cs' T (0, 0)) → W.grownBy W1 (some g) → Kc a W1) : if Region.wanted o (yielded ops a.tmps) = true then Oper.wp P o a W Kc Q else Kc (a.put none undef) W := by
 have hrun := run_store_run (P := P) (o := 0) t (.agg cs') cs'.toList hb rfl (by rw [ht]; simp) (by rw [Array.length_toList]; omega) h1
 obtain ⟨cur', h3, h4, h5⟩ := setCells_row cs'.toList 0 W cs hb (by rw [Array.length_toList]; omega)
 have he : cur' = cs' := by
  apply Array.toList_inj.1
  rw [h5, List.take_zero, List.nil_append, Nat.zero_add, List.drop_eq_nil_of_le (by rw [Array.length_toList, Array.length_toList]; omega), List.append_nil]
 rw [he] at h3
 obtain ⟨s1, s2, s3, s4⟩ := setCells_same g cs'.toList 0 W
 rw [if_pos hw]
 unfold Oper.wp execOp
 simp only [ho, haddr, hx, Sem.run_bind, Sem.run_pure, Result.andThen_ok, hrun]
 show Kc (a.put o.dst undef) _
 rw [hN]
 exact h _ h3 ⟨s1, s2, s3, by rw [s4]; exact Nat.le_refl _, fun k _ hk => setCells_far _ _ k (fun he => hk (by rw [he]))⟩
end
theorem k52_ofK2 {w w1 : World} {base : Nat} {ok : Nat → Prop} {x : RC} {cs : List Value} (h : k52.K w x cs) : k52.M w1 base ok x cs := by
 obtain rfl := k52_open h
 exact k52_mkM _ _ _ x
theorem rMark_at (l : List CS) (n k : Nat) (m : Int) (hl : l.length ≤ 1000) (hn : n < l.length) (hk : markAt l n = k) (ad : Addr) (c : Nat) (w : World) (ok : Nat → Prop) (hc : l.length ≤ c) (hF : Kd.F kRC w ok (some ad) l.length (l.map toR)) :
 Calls Tryz.prog 67 #[.slice (some ad) l.length c, .int .i64 n, .int .i64 m] w (RPost w ok (markL l n m) (markOk l n m)) := by
 have hkn : k ≤ n := by rw [← hk]; exact markAt_le l n
 have hC := Kd.F_now hF
 obtain ⟨ad1, e1, -, -, -, t3, -⟩ := at_T52 hC (n : Int) (Int.natCast_nonneg n) (by omega)
 injection e1 with e1
 subst e1
 obtain ⟨ad2, e2, q0, q1, q2, q3, q4, q5, q6⟩ := at_T52 hC (k : Int) (Int.natCast_nonneg k) (by omega)
 injection e2 with e2
 subst e2
 rw [rd_R l n hn] at t3
 rw [rd_R l k (by omega)] at q0 q1 q2 q3 q4 q5 q6
 simp only [Int.toNat_natCast] at t3 q0 q1 q2 q3 q4 q5 q6
 obtain ⟨x, hx⟩ : ∃ x, rd_T40 l (k : Int) = x := ⟨_, rfl⟩
 obtain ⟨y, hy⟩ : ∃ y, rd_T40 l (n : Int) = y := ⟨_, rfl⟩
 rw [hx] at q0 q1 q2 q3 q4 q5 q6
 rw [hy] at t3
 change _ = some (Value.int .u8 y.f2) at t3
 change _ = some (Value.int .i64 x.f0) at q0
 change _ = some (Value.int .i64 x.f1.f0) at q1
 change _ = some (Value.int .i64 x.f1.f1) at q2
 change _ = some (Value.int .u8 x.f2) at q3
 change _ = some (Value.int .u8 x.f3.f0) at q4
 change _ = some (Value.int .u8 x.f3.f1) at q5
 change _ = some (Value.int .u8 x.f3.f2) at q6
 obtain ⟨z, hz⟩ : ∃ z, markS x m = z := ⟨_, rfl⟩
 obtain ⟨b, hb⟩ : ∃ b, markB x m = b := ⟨_, rfl⟩
 have HM := aS (show prolepsisref05_Mark.f 30 x.f0 x.f1.f0 x.f1.f1 x.f2 x.f3.f0 x.f3.f1 x.f3.f2 m = some (z.f0, z.f1.f0, z.f1.f1, z.f2, z.f3.f0, z.f3.f1, z.f3.f2, b) by rw [rMark1 _ _ _ _ _ _ _ _ 30 (by omega), ← hz, ← hb]; rfl)
 have hin : 0 ≤ (n : Int) ∧ (n : Int) < (l.length : Int) := by omega
 have hL : markL l n m = l.set k z := by unfold markL; rw [if_pos hin, Int.toNat_natCast, hk, hx, hz]
 have hO : markOk l n m = b := by unfold markOk; rw [decide_eq_true hin, Bool.true_and, Int.toNat_natCast, hk, hx, hb]
 rw [hL, hO]
 have HF := aS (And.intro hc (And.intro hF (show (l.set k z).map toR = (l.map toR).set k (toR z) by rw [List.map_set])))
 obtain ⟨N, hN⟩ : ∃ N, l.length = N := ⟨_, rfl⟩
 have HN := aS (And.intro hN hl)
 have HKN := aS (And.intro hkn hk)
 have HY := aS hy
 have HX := aS hx
 rw [hN] at hn ⊢
 have hT0 : decide ((n : Int) < 0) = false := decide_eq_false (by omega)
 have hT1 : decide (N ≤ n) = false := decide_eq_false (by omega)
 have hT1' : decide ((N : Int) ≤ (n : Int)) = false := decide_eq_false (by omega)
 have hA0 := hasW_at' l n 0 (by omega)
 have hwm : wrap64 ((n : Int) - 1) = (n : Int) - 1 := w64 (by omega) (by omega)
 clear hC hx hz hb hin hL hO hN hl hc hF
 by_cases a0 : y.f2 = 0
 ·have hb0 : (y.f2 == 0) = true := beq_iff_eq.2 a0
  have hh0 : hasW l n 0 = true := by rw [hA0, HY.out]; exact decide_eq_true a0
  by_cases a1 : 0 < n
  ·obtain ⟨n', hn'⟩ : ∃ n', n = n' + 1 := ⟨n - 1, by omega⟩
   have hB2 := hasW_at' l n' 2 (by have := HN.out; omega)
   have hnn : n - 1 = n' := by omega
   have hT5 : decide (0 < n) = true := decide_eq_true a1
   have hT6 : decide ((0 : Int) < (n : Int)) = true := decide_eq_true (by omega)
   have hwm1 : wrap64 ((n : Int) - 1) = (n' : Int) := by rw [w64 (by omega) (by have := HN.out; omega)]; omega
   have hwm2 : IntKind.i64.wrap ((n : Int) - 1) = (n' : Int) := by rw [i64_w]; exact hwm1
   have hn1 : n' < N := by omega
   by_cases a2 : (rd_T40 l (n' : Int)).f2 = 2
   ·-- the left half
    obtain rfl : k = n' := by rw [← HKN.out.2]; unfold markAt; rw [hh0, hnn, hB2, decide_eq_true a2, decide_eq_true a1]; rfl
    have hb2 : (x.f2 == 2) = true := by rw [← HX.out]; exact beq_iff_eq.2 a2
    clear a0 a1 a2 hA0 hB2 hh0 hwm hnn hn'
    go_enter Tryz.func67, Tryz.ntmps67
    go_wp2_with (first | (go_at_call 95; go_must (with_reducible refine (prolepsisref05_Mark.calls 30 _ _ _ _ _ _ _ m _ _ _ _ _ _ _ _ _ HM.out).mono ?_); rintro e w1 ⟨rfl, hb⟩; have H1 := aS hb; clear hb) | (refine bx 8 #[.int .i64 0, .int .i64 0, .int .i64 0, .int .u8 0, .int .u8 0, .int .u8 0, .int .u8 0] 52 ?_; intro g8 hg8 w2 hbox hb2; have H2 := aS (And.intro hbox (And.intro (below_step H1.out hb2) (show w.heap.size ≤ g8 by rw [hg8]; exact H1.out.size))); clear hbox hb2 hg8) | ((with_reducible refine gate_store (t := 52) (p := 8) rfl ?_); go_must (refine step_whole (.tmp 8) (.tmp 48) rfl rfl rfl rfl rfl H2.out.1 rfl (by kernel_rfl) (by simp [Value.oneCell']; done) ?_); intro w3 hx3 hg3; have H3 := aS (And.intro hx3 (show Below w.heap.size w w3 from Below.grown H2.out.2.1 hg3 H2.out.2.1.size (fun k hk => by injection hk with hk; rw [← hk]; exact H2.out.2.2))); clear hx3 hg3) | ((with_reducible refine gate_dst (N := 50) rfl ?_); refine Kd.R_lit kRC (w0 := w3) w3.heap.size 52 ?hg (N := 50) ?hd (xs := ([] : List RC)) (inner := []) (ok := fun _ => True) (okp := fun _ => True) ?hr ?hp (fun _ hk => hk) trivial (Below.refl _ _) (Nat.le_refl _) (by simp) ?_; (case hd => rfl); (case hg => rfl); (case hr => first | (go_simp; done) | (go_simp; rfl)); (case hp => exact (Reps.none _ _)); intro v6 w6 ho hb hg_ hnew_; have H6 := aS (And.intro ho hb); clear ho hb hg_ hnew_) | ((with_reducible refine gate_builtin (b := .append) (xs := #[.tmp 50, .tmp 51]) rfl ?_); go_must (at_builtin); go_must (refine Kd.R_append_rows kRC (w0 := w3) w3.heap.size rfl (.tmp 50) (.tmp 51) 72 52 _ 32 rfl Tryz.underlying72 infoRC rfl (by decide) (by omega) v6 [] (l.map toR) (some ad) _ c (fun _ => True) (fun _ => False) rfl rfl H6.out.1 (Kd.C_below (Kd.C_below (by have h := Kd.F_now HF.out.2.1; rw [HN.out.1] at h; exact h) H3.out.2) H6.out.2) (fun _ _ h => k52_ofK2 h) (fun _ h => h.elim) (fun _ _ => trivial) H6.out.2 H6.out.2.size (by have := HN.out; simp; omega) ?_); intro v7 w7 ho hb hg hat; go_must (obtain ⟨g7, cap7, e7, hg7, hg7l, -⟩ := Kd.R_form ho (by have := HN.out.1; rw [List.nil_append, List.length_map]; omega)); rw [List.nil_append] at ho e7; rw [List.length_map, HN.out.1] at e7; subst e7; have H7 := aS (And.intro ho (And.intro hb (And.intro hg7 hg7l))); have hx7 := blk_below H3.out.1 hb; have b0 := (blk_cell hx7 0).trans (rfl : _ = some (Value.int .i64 z.f0)); have b1 := (blk_cell hx7 1).trans (rfl : _ = some (Value.int .i64 z.f1.f0)); have b2 := (blk_cell hx7 2).trans (rfl : _ = some (Value.int .i64 z.f1.f1)); have b3 := (blk_cell hx7 3).trans (rfl : _ = some (Value.int .u8 z.f2)); have b4 := (blk_cell hx7 4).trans (rfl : _ = some (Value.int .u8 z.f3.f0)); have b5 := (blk_cell hx7 5).trans (rfl : _ = some (Value.int .u8 z.f3.f1)); have b6 := (blk_cell hx7 6).trans (rfl : _ = some (Value.int .u8 z.f3.f2)); clear ho hb hg hat hg7 hg7l hx7) | ((with_reducible refine gate_store (t := 52) (p := 56) rfl ?_); obtain ⟨cc, hcl, -, hcc, -⟩ := Kd.R_elem H7.out.1 z52 (k : Int) (by omega) (by have := HKN.out.1; omega); go_must (refine Kd.R_store kRC (w0 := w3) w3.heap.size rfl rfl 52 (.tmp 56) (.tmp 55) rfl 52 (g := g7) (n := N) (cap := cap7) (o' := k * 7) (k : Int) 0 (l.map toR) (toR z) _ (refL z) cc (fun _ => True) (fun _ => False) ?ha ?ho rfl rfl ?ht ?h1 H7.out.1 ?hq0 ?hq1 hcl hcc ?hj ?hM (fun _ h => h.elim) H7.out.2.1 ?_); go_must (case ha => rfl); go_must (case hq0 => omega); go_must (case hq1 => have := HKN.out.1; omega); go_must (case ho => rw [Int.toNat_natCast]; rfl); go_must (case ht => kernel_rfl); go_must (case h1 => simp [Value.oneCell']; done); go_must (case hj => exact Nat.le_refl 7); go_must (case hM => rw [List.take_zero, List.nil_append, Nat.zero_add, List.drop_eq_nil_of_le (by rw [hcl]; exact Nat.le_refl 7), List.append_nil]; exact k52_mkM _ _ _ (toR z)); intro w8 ho hb hg; simp only [Int.toNat_natCast] at ho; have H8 := aS (And.intro ho hb); clear ho hb hg hcl hcc))
    all_goals go_ret2
    all_goals exact ⟨_, rfl, by rw [HF.out.2.2]; exact (RD.ofR H8.out.1).mono (fun k hk => .inr (Nat.le_trans H3.out.2.size hk)), below_then H3.out.2 H3.out.2.size H8.out.2⟩
   ·obtain rfl : k = n := by rw [← HKN.out.2]; unfold markAt; rw [hh0, hnn, hB2, decide_eq_false a2, decide_eq_true a1]; rfl
    obtain rfl : x = y := by rw [← HY.out, ← HX.out]
    obtain ⟨ad3, e3, -, -, -, s3, -⟩ := at_T52 (Kd.F_now HF.out.2.1) (n' : Int) (Int.natCast_nonneg n') (by have := HN.out; omega)
    injection e3 with e3
    subst e3
    rw [rd_R l n' (by have := HN.out; omega)] at s3
    simp only [Int.toNat_natCast] at s3
    obtain ⟨u, hu⟩ : ∃ u, rd_T40 l (n' : Int) = u := ⟨_, rfl⟩
    rw [hu] at s3 a2
    change _ = some (Value.int .u8 u.f2) at s3
    have hb2 : (u.f2 == 2) = false := beq_eq_false_iff_ne.2 a2
    clear a0 a1 a2 hA0 hB2 hh0 hwm t3 hu hnn hn'
    go_enter Tryz.func67, Tryz.ntmps67
    go_wp2_with (first | (go_at_call 95; go_must (with_reducible refine (prolepsisref05_Mark.calls 30 _ _ _ _ _ _ _ m _ _ _ _ _ _ _ _ _ HM.out).mono ?_); rintro e w1 ⟨rfl, hb⟩; have H1 := aS hb; clear hb) | (refine bx 8 #[.int .i64 0, .int .i64 0, .int .i64 0, .int .u8 0, .int .u8 0, .int .u8 0, .int .u8 0] 52 ?_; intro g8 hg8 w2 hbox hb2; have H2 := aS (And.intro hbox (And.intro (below_step H1.out hb2) (show w.heap.size ≤ g8 by rw [hg8]; exact H1.out.size))); clear hbox hb2 hg8) | ((with_reducible refine gate_store (t := 52) (p := 8) rfl ?_); go_must (refine step_whole (.tmp 8) (.tmp 48) rfl rfl rfl rfl rfl H2.out.1 rfl (by kernel_rfl) (by simp [Value.oneCell']; done) ?_); intro w3 hx3 hg3; have H3 := aS (And.intro hx3 (show Below w.heap.size w w3 from Below.grown H2.out.2.1 hg3 H2.out.2.1.size (fun k hk => by injection hk with hk; rw [← hk]; exact H2.out.2.2))); clear hx3 hg3) | ((with_reducible refine gate_dst (N := 50) rfl ?_); refine Kd.R_lit kRC (w0 := w3) w3.heap.size 52 ?hg (N := 50) ?hd (xs := ([] : List RC)) (inner := []) (ok := fun _ => True) (okp := fun _ => True) ?hr ?hp (fun _ hk => hk) trivial (Below.refl _ _) (Nat.le_refl _) (by simp) ?_; (case hd => rfl); (case hg => rfl); (case hr => first | (go_simp; done) | (go_simp; rfl)); (case hp => exact (Reps.none _ _)); intro v6 w6 ho hb hg_ hnew_; have H6 := aS (And.intro ho hb); clear ho hb hg_ hnew_) | ((with_reducible refine gate_builtin (b := .append) (xs := #[.tmp 50, .tmp 51]) rfl ?_); go_must (at_builtin); go_must (refine Kd.R_append_rows kRC (w0 := w3) w3.heap.size rfl (.tmp 50) (.tmp 51) 72 52 _ 32 rfl Tryz.underlying72 infoRC rfl (by decide) (by omega) v6 [] (l.map toR) (some ad) _ c (fun _ => True) (fun _ => False) rfl rfl H6.out.1 (Kd.C_below (Kd.C_below (by have h := Kd.F_now HF.out.2.1; rw [HN.out.1] at h; exact h) H3.out.2) H6.out.2) (fun _ _ h => k52_ofK2 h) (fun _ h => h.elim) (fun _ _ => trivial) H6.out.2 H6.out.2.size (by have := HN.out; simp; omega) ?_); intro v7 w7 ho hb hg hat; go_must (obtain ⟨g7, cap7, e7, hg7, hg7l, -⟩ := Kd.R_form ho (by have := HN.out.1; rw [List.nil_append, List.length_map]; omega)); rw [List.nil_append] at ho e7; rw [List.length_map, HN.out.1] at e7; subst e7; have H7 := aS (And.intro ho (And.intro hb (And.intro hg7 hg7l))); have hx7 := blk_below H3.out.1 hb; have b0 := (blk_cell hx7 0).trans (rfl : _ = some (Value.int .i64 z.f0)); have b1 := (blk_cell hx7 1).trans (rfl : _ = some (Value.int .i64 z.f1.f0)); have b2 := (blk_cell hx7 2).trans (rfl : _ = some (Value.int .i64 z.f1.f1)); have b3 := (blk_cell hx7 3).trans (rfl : _ = some (Value.int .u8 z.f2)); have b4 := (blk_cell hx7 4).trans (rfl : _ = some (Value.int .u8 z.f3.f0)); have b5 := (blk_cell hx7 5).trans (rfl : _ = some (Value.int .u8 z.f3.f1)); have b6 := (blk_cell hx7 6).trans (rfl : _ = some (Value.int .u8 z.f3.f2)); clear ho hb hg hat hg7 hg7l hx7) | ((with_reducible refine gate_store (t := 52) (p := 56) rfl ?_); obtain ⟨cc, hcl, -, hcc, -⟩ := Kd.R_elem H7.out.1 z52 (k : Int) (by omega) (by have := HKN.out.1; omega); go_must (refine Kd.R_store kRC (w0 := w3) w3.heap.size rfl rfl 52 (.tmp 56) (.tmp 55) rfl 52 (g := g7) (n := N) (cap := cap7) (o' := k * 7) (k : Int) 0 (l.map toR) (toR z) _ (refL z) cc (fun _ => True) (fun _ => False) ?ha ?ho rfl rfl ?ht ?h1 H7.out.1 ?hq0 ?hq1 hcl hcc ?hj ?hM (fun _ h => h.elim) H7.out.2.1 ?_); go_must (case ha => rfl); go_must (case hq0 => omega); go_must (case hq1 => have := HKN.out.1; omega); go_must (case ho => rw [Int.toNat_natCast]; rfl); go_must (case ht => kernel_rfl); go_must (case h1 => simp [Value.oneCell']; done); go_must (case hj => exact Nat.le_refl 7); go_must (case hM => rw [List.take_zero, List.nil_append, Nat.zero_add, List.drop_eq_nil_of_le (by rw [hcl]; exact Nat.le_refl 7), List.append_nil]; exact k52_mkM _ _ _ (toR z)); intro w8 ho hb hg; simp only [Int.toNat_natCast] at ho; have H8 := aS (And.intro ho hb); clear ho hb hg hcl hcc))
    all_goals go_ret2
    all_goals exact ⟨_, rfl, by rw [HF.out.2.2]; exact (RD.ofR H8.out.1).mono (fun k hk => .inr (Nat.le_trans H3.out.2.size hk)), below_then H3.out.2 H3.out.2.size H8.out.2⟩
  ·obtain rfl : k = n := by have := HKN.out.1; omega
   obtain rfl : x = y := by rw [← HY.out, ← HX.out]
   have hT5 : decide (0 < k) = false := decide_eq_false a1
   have hT6 : decide ((0 : Int) < (k : Int)) = false := decide_eq_false (by omega)
   clear a0 a1 hA0 hh0 hwm t3
   go_enter Tryz.func67, Tryz.ntmps67
   go_wp2_with (first | (go_at_call 95; go_must (with_reducible refine (prolepsisref05_Mark.calls 30 _ _ _ _ _ _ _ m _ _ _ _ _ _ _ _ _ HM.out).mono ?_); rintro e w1 ⟨rfl, hb⟩; have H1 := aS hb; clear hb) | (refine bx 8 #[.int .i64 0, .int .i64 0, .int .i64 0, .int .u8 0, .int .u8 0, .int .u8 0, .int .u8 0] 52 ?_; intro g8 hg8 w2 hbox hb2; have H2 := aS (And.intro hbox (And.intro (below_step H1.out hb2) (show w.heap.size ≤ g8 by rw [hg8]; exact H1.out.size))); clear hbox hb2 hg8) | ((with_reducible refine gate_store (t := 52) (p := 8) rfl ?_); go_must (refine step_whole (.tmp 8) (.tmp 48) rfl rfl rfl rfl rfl H2.out.1 rfl (by kernel_rfl) (by simp [Value.oneCell']; done) ?_); intro w3 hx3 hg3; have H3 := aS (And.intro hx3 (show Below w.heap.size w w3 from Below.grown H2.out.2.1 hg3 H2.out.2.1.size (fun k hk => by injection hk with hk; rw [← hk]; exact H2.out.2.2))); clear hx3 hg3) | ((with_reducible refine gate_dst (N := 50) rfl ?_); refine Kd.R_lit kRC (w0 := w3) w3.heap.size 52 ?hg (N := 50) ?hd (xs := ([] : List RC)) (inner := []) (ok := fun _ => True) (okp := fun _ => True) ?hr ?hp (fun _ hk => hk) trivial (Below.refl _ _) (Nat.le_refl _) (by simp) ?_; (case hd => rfl); (case hg => rfl); (case hr => first | (go_simp; done) | (go_simp; rfl)); (case hp => exact (Reps.none _ _)); intro v6 w6 ho hb hg_ hnew_; have H6 := aS (And.intro ho hb); clear ho hb hg_ hnew_) | ((with_reducible refine gate_builtin (b := .append) (xs := #[.tmp 50, .tmp 51]) rfl ?_); go_must (at_builtin); go_must (refine Kd.R_append_rows kRC (w0 := w3) w3.heap.size rfl (.tmp 50) (.tmp 51) 72 52 _ 32 rfl Tryz.underlying72 infoRC rfl (by decide) (by omega) v6 [] (l.map toR) (some ad) _ c (fun _ => True) (fun _ => False) rfl rfl H6.out.1 (Kd.C_below (Kd.C_below (by have h := Kd.F_now HF.out.2.1; rw [HN.out.1] at h; exact h) H3.out.2) H6.out.2) (fun _ _ h => k52_ofK2 h) (fun _ h => h.elim) (fun _ _ => trivial) H6.out.2 H6.out.2.size (by have := HN.out; simp; omega) ?_); intro v7 w7 ho hb hg hat; go_must (obtain ⟨g7, cap7, e7, hg7, hg7l, -⟩ := Kd.R_form ho (by have := HN.out.1; rw [List.nil_append, List.length_map]; omega)); rw [List.nil_append] at ho e7; rw [List.length_map, HN.out.1] at e7; subst e7; have H7 := aS (And.intro ho (And.intro hb (And.intro hg7 hg7l))); have hx7 := blk_below H3.out.1 hb; have b0 := (blk_cell hx7 0).trans (rfl : _ = some (Value.int .i64 z.f0)); have b1 := (blk_cell hx7 1).trans (rfl : _ = some (Value.int .i64 z.f1.f0)); have b2 := (blk_cell hx7 2).trans (rfl : _ = some (Value.int .i64 z.f1.f1)); have b3 := (blk_cell hx7 3).trans (rfl : _ = some (Value.int .u8 z.f2)); have b4 := (blk_cell hx7 4).trans (rfl : _ = some (Value.int .u8 z.f3.f0)); have b5 := (blk_cell hx7 5).trans (rfl : _ = some (Value.int .u8 z.f3.f1)); have b6 := (blk_cell hx7 6).trans (rfl : _ = some (Value.int .u8 z.f3.f2)); clear ho hb hg hat hg7 hg7l hx7) | ((with_reducible refine gate_store (t := 52) (p := 56) rfl ?_); obtain ⟨cc, hcl, -, hcc, -⟩ := Kd.R_elem H7.out.1 z52 (k : Int) (by omega) (by have := HKN.out.1; omega); go_must (refine Kd.R_store kRC (w0 := w3) w3.heap.size rfl rfl 52 (.tmp 56) (.tmp 55) rfl 52 (g := g7) (n := N) (cap := cap7) (o' := k * 7) (k : Int) 0 (l.map toR) (toR z) _ (refL z) cc (fun _ => True) (fun _ => False) ?ha ?ho rfl rfl ?ht ?h1 H7.out.1 ?hq0 ?hq1 hcl hcc ?hj ?hM (fun _ h => h.elim) H7.out.2.1 ?_); go_must (case ha => rfl); go_must (case hq0 => omega); go_must (case hq1 => have := HKN.out.1; omega); go_must (case ho => rw [Int.toNat_natCast]; rfl); go_must (case ht => kernel_rfl); go_must (case h1 => simp [Value.oneCell']; done); go_must (case hj => exact Nat.le_refl 7); go_must (case hM => rw [List.take_zero, List.nil_append, Nat.zero_add, List.drop_eq_nil_of_le (by rw [hcl]; exact Nat.le_refl 7), List.append_nil]; exact k52_mkM _ _ _ (toR z)); intro w8 ho hb hg; simp only [Int.toNat_natCast] at ho; have H8 := aS (And.intro ho hb); clear ho hb hg hcl hcc))
   all_goals go_ret2
   all_goals exact ⟨_, rfl, by rw [HF.out.2.2]; exact (RD.ofR H8.out.1).mono (fun k hk => .inr (Nat.le_trans H3.out.2.size hk)), below_then H3.out.2 H3.out.2.size H8.out.2⟩
 ·have hb0 : (y.f2 == 0) = false := beq_eq_false_iff_ne.2 a0
  obtain rfl : k = n := by rw [← HKN.out.2]; unfold markAt; rw [hA0, HY.out, decide_eq_false a0]; simp
  obtain rfl : x = y := by rw [← HY.out, ← HX.out]
  clear a0 hA0 t3 hwm
  go_enter Tryz.func67, Tryz.ntmps67
  go_wp2_with (first | (go_at_call 95; go_must (with_reducible refine (prolepsisref05_Mark.calls 30 _ _ _ _ _ _ _ m _ _ _ _ _ _ _ _ _ HM.out).mono ?_); rintro e w1 ⟨rfl, hb⟩; have H1 := aS hb; clear hb) | (refine bx 8 #[.int .i64 0, .int .i64 0, .int .i64 0, .int .u8 0, .int .u8 0, .int .u8 0, .int .u8 0] 52 ?_; intro g8 hg8 w2 hbox hb2; have H2 := aS (And.intro hbox (And.intro (below_step H1.out hb2) (show w.heap.size ≤ g8 by rw [hg8]; exact H1.out.size))); clear hbox hb2 hg8) | ((with_reducible refine gate_store (t := 52) (p := 8) rfl ?_); go_must (refine step_whole (.tmp 8) (.tmp 48) rfl rfl rfl rfl rfl H2.out.1 rfl (by kernel_rfl) (by simp [Value.oneCell']; done) ?_); intro w3 hx3 hg3; have H3 := aS (And.intro hx3 (show Below w.heap.size w w3 from Below.grown H2.out.2.1 hg3 H2.out.2.1.size (fun k hk => by injection hk with hk; rw [← hk]; exact H2.out.2.2))); clear hx3 hg3) | ((with_reducible refine gate_dst (N := 50) rfl ?_); refine Kd.R_lit kRC (w0 := w3) w3.heap.size 52 ?hg (N := 50) ?hd (xs := ([] : List RC)) (inner := []) (ok := fun _ => True) (okp := fun _ => True) ?hr ?hp (fun _ hk => hk) trivial (Below.refl _ _) (Nat.le_refl _) (by simp) ?_; (case hd => rfl); (case hg => rfl); (case hr => first | (go_simp; done) | (go_simp; rfl)); (case hp => exact (Reps.none _ _)); intro v6 w6 ho hb hg_ hnew_; have H6 := aS (And.intro ho hb); clear ho hb hg_ hnew_) | ((with_reducible refine gate_builtin (b := .append) (xs := #[.tmp 50, .tmp 51]) rfl ?_); go_must (at_builtin); go_must (refine Kd.R_append_rows kRC (w0 := w3) w3.heap.size rfl (.tmp 50) (.tmp 51) 72 52 _ 32 rfl Tryz.underlying72 infoRC rfl (by decide) (by omega) v6 [] (l.map toR) (some ad) _ c (fun _ => True) (fun _ => False) rfl rfl H6.out.1 (Kd.C_below (Kd.C_below (by have h := Kd.F_now HF.out.2.1; rw [HN.out.1] at h; exact h) H3.out.2) H6.out.2) (fun _ _ h => k52_ofK2 h) (fun _ h => h.elim) (fun _ _ => trivial) H6.out.2 H6.out.2.size (by have := HN.out; simp; omega) ?_); intro v7 w7 ho hb hg hat; go_must (obtain ⟨g7, cap7, e7, hg7, hg7l, -⟩ := Kd.R_form ho (by have := HN.out.1; rw [List.nil_append, List.length_map]; omega)); rw [List.nil_append] at ho e7; rw [List.length_map, HN.out.1] at e7; subst e7; have H7 := aS (And.intro ho (And.intro hb (And.intro hg7 hg7l))); have hx7 := blk_below H3.out.1 hb; have b0 := (blk_cell hx7 0).trans (rfl : _ = some (Value.int .i64 z.f0)); have b1 := (blk_cell hx7 1).trans (rfl : _ = some (Value.int .i64 z.f1.f0)); have b2 := (blk_cell hx7 2).trans (rfl : _ = some (Value.int .i64 z.f1.f1)); have b3 := (blk_cell hx7 3).trans (rfl : _ = some (Value.int .u8 z.f2)); have b4 := (blk_cell hx7 4).trans (rfl : _ = some (Value.int .u8 z.f3.f0)); have b5 := (blk_cell hx7 5).trans (rfl : _ = some (Value.int .u8 z.f3.f1)); have b6 := (blk_cell hx7 6).trans (rfl : _ = some (Value.int .u8 z.f3.f2)); clear ho hb hg hat hg7 hg7l hx7) | ((with_reducible refine gate_store (t := 52) (p := 56) rfl ?_); obtain ⟨cc, hcl, -, hcc, -⟩ := Kd.R_elem H7.out.1 z52 (k : Int) (by omega) (by have := HKN.out.1; omega); go_must (refine Kd.R_store kRC (w0 := w3) w3.heap.size rfl rfl 52 (.tmp 56) (.tmp 55) rfl 52 (g := g7) (n := N) (cap := cap7) (o' := k * 7) (k : Int) 0 (l.map toR) (toR z) _ (refL z) cc (fun _ => True) (fun _ => False) ?ha ?ho rfl rfl ?ht ?h1 H7.out.1 ?hq0 ?hq1 hcl hcc ?hj ?hM (fun _ h => h.elim) H7.out.2.1 ?_); go_must (case ha => rfl); go_must (case hq0 => omega); go_must (case hq1 => have := HKN.out.1; omega); go_must (case ho => rw [Int.toNat_natCast]; rfl); go_must (case ht => kernel_rfl); go_must (case h1 => simp [Value.oneCell']; done); go_must (case hj => exact Nat.le_refl 7); go_must (case hM => rw [List.take_zero, List.nil_append, Nat.zero_add, List.drop_eq_nil_of_le (by rw [hcl]; exact Nat.le_refl 7), List.append_nil]; exact k52_mkM _ _ _ (toR z)); intro w8 ho hb hg; simp only [Int.toNat_natCast] at ho; have H8 := aS (And.intro ho hb); clear ho hb hg hcl hcc))
  all_goals go_ret2
  all_goals exact ⟨_, rfl, by rw [HF.out.2.2]; exact (RD.ofR H8.out.1).mono (fun k hk => .inr (Nat.le_trans H3.out.2.size hk)), below_then H3.out.2 H3.out.2.size H8.out.2⟩
theorem rMark_any (l : List CS) (i m : Int) (hl : l.length ≤ 1000) (A : Option Addr) (c : Nat) (w : World) (ok : Nat → Prop) (hc : l.length ≤ c) (hF : Kd.F kRC w ok A l.length (l.map toR)) :
 Calls Tryz.prog 67 #[.slice A l.length c, .int .i64 i, .int .i64 m] w (RPost w ok (markL l i m) (markOk l i m)) := by
 by_cases hin : 0 ≤ i ∧ i < (l.length : Int)
 ·obtain ⟨n, rfl⟩ : ∃ n : Nat, i = (n : Int) := ⟨i.toNat, by omega⟩
  obtain ⟨ad, rfl, -⟩ := at_T52 (Kd.F_now hF) 0 (by omega) (by omega)
  exact rMark_at l n _ m hl (by omega) rfl ad c w ok hc hF
 ·have hL : markL l i m = l := by unfold markL; rw [if_neg hin]
  have hO : markOk l i m = false := by unfold markOk; rw [decide_eq_false hin, Bool.false_and]
  rw [hL, hO]
  have HF := aS (show RD kRC w (fun k => ok k ∨ w.heap.size ≤ k) (.slice A l.length c) (l.map toR) from ⟨A, c, by rw [List.length_map], by rw [List.length_map]; exact hc, by rw [List.length_map]; exact Kd.F_mono hF (fun k hk => .inl hk)⟩)
  by_cases h0 : i < 0
  ·have hT0 : decide (i < 0) = true := decide_eq_true h0
   clear hc hF hin hL hO h0
   go_enter Tryz.func67, Tryz.ntmps67
   go_wp2
   all_goals go_ret2
   all_goals exact ⟨_, rfl, HF.out, Below.refl _ _⟩
  ·have hT0 : decide (i < 0) = false := decide_eq_false h0
   have hT1 : decide ((l.length : Int) ≤ i) = true := decide_eq_true (by omega)
   clear hc hF hin hL hO h0
   go_enter Tryz.func67, Tryz.ntmps67
   go_wp2
   all_goals go_ret2
   all_goals exact ⟨_, rfl, HF.out, Below.refl _ _⟩
end Go.Proofs.YtblcmcdifgclcaaGreat.Grd
