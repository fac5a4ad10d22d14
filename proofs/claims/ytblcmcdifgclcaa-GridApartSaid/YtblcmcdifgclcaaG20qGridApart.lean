/- GridApart: what its proof leads to. No condition. -/
import Derived.Test.YtblcmcdifgclcaaG19qGridApart
import Derived.Test.YtblcmcdifgclcaaG4qGridApart
namespace Go.Proofs.Ytblcmcdifgclcaa.Grd
open Go.RowKit Go.Proofs.Ytblcmcdifgclcaa Go.Proofs.Ytblcmcdifgclcaa.PGridSame Go.Proofs.YtblcmcdifgclcaaW.PrintWords Go.Proofs.YtblcmcdifgclcaaW.PrintLast Go.Proofs.YtblcmcdifgclcaaW.PrintMore
set_option linter.unusedVariables false
set_option linter.unusedSimpArgs false
set_option maxRecDepth 100000
set_option maxHeartbeats 4000000
attribute [local go_sem] isSome_setCell max2_int min2_int max_two min_two
abbrev cellV (x : CS) : Value := .agg #[.int .i32 x.f0, .int .i32 x.f1.f0, .int .i32 x.f1.f1, .int .u8 x.f2, .int .u8 x.f3.f0, .int .u8 x.f3.f1, .int .u8 x.f3.f2]
abbrev cellB (x : CS) : Obj := .cells #[.int .i32 x.f0, .int .i32 x.f1.f0, .int .i32 x.f1.f1, .int .u8 x.f2, .int .u8 x.f3.f0, .int .u8 x.f3.f1, .int .u8 x.f3.f2] 26 (0, 0)
abbrev penV (p0 p1 p2 : Int) : Value := .agg #[.int .u8 p0, .int .u8 p1, .int .u8 p2]
abbrev penB (p0 p1 p2 : Int) : Obj := .cells #[.int .u8 p0, .int .u8 p1, .int .u8 p2] 24 (0, 0)
theorem size_al (W : World) (o : Obj) : (W.alloc o).heap.size = W.heap.size + 1 := by show (W.heap.push o).size = _; exact Array.size_push ..
theorem blk_new1 (W : World) (o1 o2 : Obj) : ((W.alloc o1).alloc o2).heap[W.heap.size + 1]? = some o2 := by have := blk_new (W.alloc o1) o2; rwa [size_al] at this
theorem blk_new2 (W : World) (o1 o2 o3 : Obj) : (((W.alloc o1).alloc o2).alloc o3).heap[W.heap.size + 2]? = some o3 := by have := blk_new1 (W.alloc o1) o2 o3; rwa [size_al] at this
theorem Did.pre {O : Nat → Prop} {W W1 W2 : World} {g : Nat} {G : GV} (hb : Below W.heap.size W W1) (h : Did O W1 W2 g G) : Did O W W2 g G := by
 obtain ⟨O', h1, h2, h3⟩ := h
 exact ⟨O', h1, fun k hk => (h2 k hk).imp id (fun h => Nat.le_trans hb.size h), (Wr.of_below hb O).trans h3 (fun k hk => .inl hk)⟩
theorem gSet_self {G : GV} {r : Int} (h : gHas G r = true) : gSet G r (gLn G r) = G := by
 obtain ⟨n, rfl, hn, hg⟩ := has_row h
 unfold gSet
 rw [Int.toNat_natCast]
 have : G.L.set n (gLn G (n : Int)) = G.L := by
  refine List.ext_getElem? fun j => ?_
  rw [List.getElem?_set]
  split
  ·rename_i hj; subst hj; rw [hg]
  ·rfl
 rw [this]
theorem pR_ok (a b c : Int) : pen_Right.f a b c = some (penR a b c) := by
 unfold pen_Right.f penR
 by_cases h1 : a < 32 <;> by_cases h2 : b < 17 <;> simp [h1, h2]
section
variable {W : World} {A : Option Addr} {c : Nat} {l : List CS}
theorem put1_any (hC : Kd.C kCl W A l.length l) (hc : l.length ≤ c) (hl : l.length ≤ 1000) (i : Int) (hi : -9223372036854775808 ≤ i ∧ i ≤ 9223372036854775807) (x : CS) (hx : W32 x) (g1 g2 : Nat) (h1 : W.cell? ⟨g1, 0, none⟩ = some (.int .i64 i)) (h2 : W.heap[g2]? = some (cellB x)) :
 Calls Try.prog 107 #[.slice A l.length c, .pointer (some ⟨g1, 0, none⟩), .pointer (some ⟨g2, 0, none⟩)] W (LR W (putC l i x) (putOk l i x)) := by
 have c0 := (blk_cell h2 0).trans rfl
 have c1 := (blk_cell h2 1).trans rfl
 have c2 := (blk_cell h2 2).trans rfl
 have c3 := (blk_cell h2 3).trans rfl
 have c4 := (blk_cell h2 4).trans rfl
 have c5 := (blk_cell h2 5).trans rfl
 have c6 := (blk_cell h2 6).trans rfl
 have HC := aS (And.intro hC (And.intro hc (Put_ok l i x hi hx.2.2.2 (by omega) 10 (by omega))))
 clear hC hc hl h2
 go_enter Try.func107, Try.ntmps107
 go_wp2_with (first | (go_at_call 37; refine (line_Put.calls 10 A c l i _ _ _ _ _ _ _ _ _ _ HC.out.1 HC.out.2.1 HC.out.2.2).mono ?_; rintro e w1 ⟨v, rfl, hR, hb⟩; have HR := aS (And.intro hR hb); clear hR hb))
 all_goals go_ret2
 all_goals exact LR.ofR HR.out.1 HR.out.2
theorem mark1_any (hC : Kd.C kCl W A l.length l) (hc : l.length ≤ c) (hl : l.length ≤ 1000) (i m : Int) (g1 g2 : Nat) (h1 : W.cell? ⟨g1, 0, none⟩ = some (.int .i64 i)) (h2 : W.cell? ⟨g2, 0, none⟩ = some (.int .i32 m)) :
 Calls Try.prog 108 #[.slice A l.length c, .pointer (some ⟨g1, 0, none⟩), .pointer (some ⟨g2, 0, none⟩)] W (LR W (markL l i m) (markOk l i m)) := by
 have HC := aS (And.intro hC (And.intro hc (Mark_ok l i m (by omega) 10 (by omega))))
 clear hC hc hl
 go_enter Try.func108, Try.ntmps108
 go_wp2_with (first | (go_at_call 44; refine (line_Mark.calls 10 A c l i m _ _ _ HC.out.1 HC.out.2.1 HC.out.2.2).mono ?_; rintro e w1 ⟨v, rfl, hR, hb⟩; have HR := aS (And.intro hR hb); clear hR hb))
 all_goals go_ret2
 all_goals exact LR.ofR HR.out.1 HR.out.2
theorem erase1_any (hC : Kd.C kCl W A l.length l) (hc : l.length ≤ c) (hl : l.length ≤ 1000) (a b p0 p1 p2 : Int) (g1 g2 g3 : Nat) (h1 : W.cell? ⟨g1, 0, none⟩ = some (.int .i64 a)) (h2 : W.cell? ⟨g2, 0, none⟩ = some (.int .i64 b)) (h3 : W.heap[g3]? = some (penB p0 p1 p2)) :
 Calls Try.prog 105 #[.slice A l.length c, .pointer (some ⟨g1, 0, none⟩), .pointer (some ⟨g2, 0, none⟩), .pointer (some ⟨g3, 0, none⟩)] W (LR W (eraseC l a b p0 p1 p2) (penR p0 p1 p2)) := by
 have c0 := (blk_cell h3 0).trans (rfl : _ = some (Value.int .u8 p0))
 have c1 := (blk_cell h3 1).trans (rfl : _ = some (Value.int .u8 p1))
 have c2 := (blk_cell h3 2).trans (rfl : _ = some (Value.int .u8 p2))
 have HC := aS (And.intro hC (And.intro hc (Erase_ok l a b p0 p1 p2 (by omega) 2000 (by omega))))
 have H3 := aS h3
 clear hC hc hl h3
 go_enter Try.func105, Try.ntmps105
 go_wp2
 refine start_ (n := 9) (S := fun w' => w'.cell? ⟨g1, 0, none⟩ = some (.int .i64 a) ∧ w'.cell? ⟨g2, 0, none⟩ = some (.int .i64 b) ∧ w'.cell? ⟨g3, 0, none⟩ = some (.int .u8 p0) ∧ w'.cell? ⟨g3, 1, none⟩ = some (.int .u8 p1) ∧ w'.cell? ⟨g3, 2, none⟩ = some (.int .u8 p2)) (ds := []) (tb 9 0) (by kernel_rfl) rfl rfl ⟨h1, h2, c0, c1, c2⟩ (fun hHeld => ?_)
 refine tP 0 (some 7) (tb 9 1) ?_
 refine tK 1 (some 8) (tb 9 3) ?_
 refine tK 2 (some 9) (tb 9 7) ?_
 refine tK 3 (some 10) (tb 9 15) ?_
 refine tK 5 (some 12) (tb 9 47) ?_
 refine sO 4 (some 11) (tb 9 63) (fun K hK => ?_)
 refine gO Try.func40 #[.slice A l.length c, .int .i64 a, .int .i64 b, .agg #[.int .u8 p0, .int .u8 p1, .int .u8 p2]] ?_
 with_reducible refine (line_Erase.calls 2000 A c l a b p0 p1 p2 _ _ (Kd.C_below HC.out.1 bE) HC.out.2.1 HC.out.2.2).mono ?_
 rintro e w4 ⟨v, rfl, hR, hb⟩
 refine ⟨_, rfl, ?_⟩
 have H4 := aS (And.intro (Kd.R_lower hR (show W.heap.size ≤ _ from Nat.le_refl _)) (show Below W.heap.size W w4 from below_step bE hb))
 clear hR hb
 refine hK.out _ _ ⟨(pw_cell_below H4.out.2 h1), (pw_cell_below H4.out.2 h2), (pw_cell_below H4.out.2 c0), (pw_cell_below H4.out.2 c1), (pw_cell_below H4.out.2 c2)⟩ (fun hHeld => ?_)
 clear hK K
 refine nm ?_
 refine sO 6 (some 13) (tb 9 127) (fun K hK => ?_)
 refine gO Try.func32 #[.agg #[.int .u8 p0, .int .u8 p1, .int .u8 p2]] ?_
 with_reducible refine (pen_Right.calls p0 p1 p2 _ _ (pR_ok p0 p1 p2)).mono ?_
 rintro e w6 ⟨rfl, hb⟩
 refine ⟨_, rfl, ?_⟩
 have H6 := aS (And.intro (Kd.R_below H4.out.1 hb) (below_step H4.out.2 hb))
 clear hb
 refine hK.out _ _ ⟨(pw_cell_below H6.out.2 h1), (pw_cell_below H6.out.2 h2), (pw_cell_below H6.out.2 c0), (pw_cell_below H6.out.2 c1), (pw_cell_below H6.out.2 c2)⟩ (fun hHeld => ?_)
 clear hK K
 refine nm ?_
 refine tP 7 (some 5) (tb 9 255) ?_
 refine tP 8 (some 6) (tb 9 511) ?_
 refine done_ (by kernel_rfl) ?_
 all_goals go_wp2
 all_goals go_ret2
 all_goals exact LR.ofR H6.out.1 H6.out.2
theorem lay1_any {O : Nat → Prop} {g : Nat} {G : GV} (h : GS O W g G) {A0 : Option Addr} {c0 : Nat} {l0 : List CS} (hC : Kd.C kCl W A l.length l) (hc : l.length ≤ c) (hl : l.length ≤ 1000) (h8 : ∀ x ∈ l, W32 x) (g1 g2 : Nat) (h1 : W.cell? ⟨g1, 0, none⟩ = some (.slice A l.length c)) (h2 : W.cell? ⟨g2, 0, none⟩ = some (.pointer (some ⟨g, 0, none⟩))) :
 Calls Try.prog 109 #[.slice A0 l0.length c0, .pointer (some ⟨g1, 0, none⟩), .pointer (some ⟨g2, 0, none⟩)] W (LR W l (decide (l.length = G.cols ∧ rightL l = true))) := by
 obtain ⟨b, cap, -, -, -, h3, -⟩ := h.cells
 have HC := aS (And.intro hC (And.intro hc (And.intro (show cell_Cell_95.f l = some l by unfold cell_Cell_95.f; rw [if_pos (by omega)]) (Right_ok l (fun x hx => (h8 x hx).2.2.2) (by omega) 2000 (by omega)))))
 by_cases he : l.length = G.cols
 ·have he' : ((l.length : Int) == (G.cols : Int)) = true := beq_iff_eq.2 (by omega)
  rw [show decide (l.length = G.cols ∧ rightL l = true) = rightL l by simp [he]]
  clear h hC hc hl h8 he
  go_enter Try.func109, Try.ntmps109
  go_wp2
  refine start_ (n := 15) (S := fun w' => w'.cell? ⟨g1, 0, none⟩ = some (.slice A l.length c) ∧ w'.cell? ⟨g2, 0, none⟩ = some (.pointer (some ⟨g, 0, none⟩)) ∧ w'.cell? ⟨g, 3, none⟩ = some (.int .i64 G.cols)) (ds := []) (tb 15 0) (by kernel_rfl) rfl rfl ⟨h1, h2, h3⟩ (fun hHeld => ?_)
  refine tK 0 (some 6) (tb 15 1) ?_
  refine tK 2 (some 8) (tb 15 5) ?_
  refine tP 3 (some 9) (tb 15 13) ?_
  refine tK 4 (some 10) (tb 15 29) ?_
  refine tP 5 (some 11) (tb 15 61) ?_
  refine tP 6 (some 12) (tb 15 125) ?_
  refine tK 7 (some 13) (tb 15 253) ?_
  refine tP 8 (some 14) (tb 15 509) ?_
  refine sO 1 (some 7) (tb 15 511) (fun K hK => ?_)
  refine gO Try.func95 #[.slice A l.length c] ?_
  with_reducible refine (cell_Cell_95.calls A c l l _ (Kd.C_below HC.out.1 bE) HC.out.2.1 HC.out.2.2.1).mono ?_
  rintro e w4 ⟨v, rfl, hR, hb⟩
  refine ⟨_, rfl, ?_⟩
  have H4 := aS (And.intro (Kd.R_lower hR (show W.heap.size ≤ _ from Nat.le_refl _)) (show Below W.heap.size W w4 from below_step bE hb))
  clear hR hb
  refine hK.out _ _ ⟨(pw_cell_below H4.out.2 h1), (pw_cell_below H4.out.2 h2), (pw_cell_below H4.out.2 h3)⟩ (fun hHeld => ?_)
  clear hK K
  refine nm ?_
  refine tP 9 (some 15) (tb 15 1023) ?_
  refine tK 10 (some 16) (tb 15 2047) ?_
  refine sO 11 (some 17) (tb 15 4095) (fun K hK => ?_)
  refine gO Try.func36 #[.slice A l.length c] ?_
  with_reducible refine (line_Right.calls A c l _ _ (Kd.C_below HC.out.1 H4.out.2) HC.out.2.1 HC.out.2.2.2).mono ?_
  rintro e w6 ⟨rfl, hb⟩
  refine ⟨_, rfl, ?_⟩
  have H6 := aS (And.intro (Kd.R_below H4.out.1 hb) (below_step H4.out.2 hb))
  clear hb
  refine hK.out _ _ ⟨(pw_cell_below H6.out.2 h1), (pw_cell_below H6.out.2 h2), (pw_cell_below H6.out.2 h3)⟩ (fun hHeld => ?_)
  clear hK K
  refine nm ?_
  refine tP 12 (some 18) (tb 15 8191) ?_
  refine tP 13 (some 4) (tb 15 16383) ?_
  refine tP 14 (some 5) (tb 15 32767) ?_
  refine done_ (by kernel_rfl) ?_
  all_goals go_wp2
  all_goals go_ret2
  all_goals exact LR.ofR H6.out.1 H6.out.2
 ·have he' : ((l.length : Int) == (G.cols : Int)) = false := beq_eq_false_iff_ne.2 (by omega)
  rw [show decide (l.length = G.cols ∧ rightL l = true) = false by simp [he]]
  clear h hC hc hl h8 he
  go_enter Try.func109, Try.ntmps109
  go_wp2
  refine start_ (n := 15) (S := fun w' => w'.cell? ⟨g1, 0, none⟩ = some (.slice A l.length c) ∧ w'.cell? ⟨g2, 0, none⟩ = some (.pointer (some ⟨g, 0, none⟩)) ∧ w'.cell? ⟨g, 3, none⟩ = some (.int .i64 G.cols)) (ds := []) (tb 15 0) (by kernel_rfl) rfl rfl ⟨h1, h2, h3⟩ (fun hHeld => ?_)
  refine tK 0 (some 6) (tb 15 1) ?_
  refine tK 2 (some 8) (tb 15 5) ?_
  refine tP 3 (some 9) (tb 15 13) ?_
  refine tK 4 (some 10) (tb 15 29) ?_
  refine tP 5 (some 11) (tb 15 61) ?_
  refine tP 6 (some 12) (tb 15 125) ?_
  refine tK 7 (some 13) (tb 15 253) ?_
  refine tP 8 (some 14) (tb 15 509) ?_
  refine sO 1 (some 7) (tb 15 511) (fun K hK => ?_)
  refine gO Try.func95 #[.slice A l.length c] ?_
  with_reducible refine (cell_Cell_95.calls A c l l _ (Kd.C_below HC.out.1 bE) HC.out.2.1 HC.out.2.2.1).mono ?_
  rintro e w4 ⟨v, rfl, hR, hb⟩
  refine ⟨_, rfl, ?_⟩
  have H4 := aS (And.intro (Kd.R_lower hR (show W.heap.size ≤ _ from Nat.le_refl _)) (show Below W.heap.size W w4 from below_step bE hb))
  clear hR hb
  refine hK.out _ _ ⟨(pw_cell_below H4.out.2 h1), (pw_cell_below H4.out.2 h2), (pw_cell_below H4.out.2 h3)⟩ (fun hHeld => ?_)
  clear hK K
  refine nm ?_
  refine tP 9 (some 15) (tb 15 1023) ?_
  refine tU 10 (some 16) (tb 15 2047) ?_
  refine tU 11 (some 17) (tb 15 4095) ?_
  refine tP 12 (some 18) (tb 15 8191) ?_
  refine tP 13 (some 4) (tb 15 16383) ?_
  refine tP 14 (some 5) (tb 15 32767) ?_
  refine done_ (by kernel_rfl) ?_
  all_goals go_wp2
  all_goals go_ret2
  all_goals exact LR.ofR H4.out.1 H4.out.2
end
section
variable {O : Nat → Prop} {W : World} {g : Nat} {G : GV}
theorem Put_any (h : GS O W g G) (r i : Int) (hi : -9223372036854775808 ≤ i ∧ i ≤ 9223372036854775807) (x : CS) (hx : W32 x) :
 Calls Try.prog 70 #[.pointer (some ⟨g, 0, none⟩), .int .i64 r, .int .i64 i, cellV x] W fun e w' => e = .returned (.bool (gPut G r i x).2) ∧ Did O W w' g (gPut G r i x).1 := by
 have hb : Below W.heap.size W ((W.alloc (.cells #[.int .i64 i] 3)).alloc (cellB x)) := bE
 have key := turn107 (h.below hb) r (.pointer (some ⟨W.heap.size, 0, none⟩)) (.pointer (some ⟨W.heap.size + 1, 0, none⟩)) (putC (gLn G r) i x) (putOk (gLn G r) i x)
  (fun hr _ => by have := gPut_ok h.ok r i hx; unfold gPut at this; rw [if_pos hr] at this; exact this)
  (fun hr A c hC hc => put1_any hC hc (by have := h.ok.len _ (gLn_mem hr); have := h.ok.c2; omega) i hi x hx _ _ ((blk_cell (blk_alloc (blk_new W (.cells #[.int .i64 i] 3)) _) 0).trans rfl) (blk_new1 _ _ _))
 have HK := aS key
 have HB := aS hb
 clear key hb h hi hx
 go_enter Try.func70, Try.ntmps70
 go_wp2_with (first | (go_at_call 104; go_must (refine HK.out.mono ?_); rintro e w1 ⟨rfl, hd⟩; have HD := aS (Did.pre HB.out hd); clear hd))
 all_goals go_ret
 refine ⟨?_, ?_⟩
 ·unfold gPut
  by_cases hr : gHas G r = true
  ·rw [if_pos hr, hr, Bool.true_and]; rfl
  ·rw [if_neg hr, Bool.eq_false_iff.2 hr, Bool.false_and]; rfl
 ·have hd := HD.out
  unfold gPut
  by_cases hr : gHas G r = true
  ·rw [if_pos hr]
   by_cases hp : putOk (gLn G r) i x = true
   ·rw [if_pos ⟨hr, hp⟩] at hd; exact hd
   ·rw [if_neg (fun h => hp h.2)] at hd
    show Did O W _ g (gSet G r (putC (gLn G r) i x))
    rw [put_no (Bool.eq_false_iff.2 hp), gSet_self hr]; exact hd
  ·rw [if_neg hr]
   rw [if_neg (fun h => hr h.1)] at hd; exact hd
theorem Mark_any (h : GS O W g G) (r i m : Int) (hm : -2147483648 ≤ m ∧ m ≤ 2147483647) :
 Calls Try.prog 71 #[.pointer (some ⟨g, 0, none⟩), .int .i64 r, .int .i64 i, .int .i32 m] W fun e w' => e = .returned (.bool (gMark G r i m).2) ∧ Did O W w' g (gMark G r i m).1 := by
 have hb : Below W.heap.size W ((W.alloc (.cells #[.int .i64 i] 3)).alloc (.cells #[.int .i32 m] 21)) := bE
 have key := turn108 (h.below hb) r (.pointer (some ⟨W.heap.size, 0, none⟩)) (.pointer (some ⟨W.heap.size + 1, 0, none⟩)) (markL (gLn G r) i m) (markOk (gLn G r) i m)
  (fun hr _ => by have := gMark_ok h.ok r i hm; unfold gMark at this; rw [if_pos hr] at this; exact this)
  (fun hr A c hC hc => mark1_any hC hc (by have := h.ok.len _ (gLn_mem hr); have := h.ok.c2; omega) i m _ _ ((blk_cell (blk_alloc (blk_new W (.cells #[.int .i64 i] 3)) _) 0).trans rfl) ((blk_cell (blk_new1 _ _ _) 0).trans rfl))
 have HK := aS key
 have HB := aS hb
 clear key hb h hm
 go_enter Try.func71, Try.ntmps71
 go_wp2_with (first | (go_at_call 104; go_must (refine HK.out.mono ?_); rintro e w1 ⟨rfl, hd⟩; have HD := aS (Did.pre HB.out hd); clear hd))
 all_goals go_ret
 refine ⟨?_, ?_⟩
 ·unfold gMark
  by_cases hr : gHas G r = true
  ·rw [if_pos hr, hr, Bool.true_and]; rfl
  ·rw [if_neg hr, Bool.eq_false_iff.2 hr, Bool.false_and]; rfl
 ·have hd := HD.out
  unfold gMark
  by_cases hr : gHas G r = true
  ·rw [if_pos hr]
   by_cases hp : markOk (gLn G r) i m = true
   ·rw [if_pos ⟨hr, hp⟩] at hd; exact hd
   ·rw [if_neg (fun h => hp h.2)] at hd
    show Did O W _ g (gSet G r (markL (gLn G r) i m))
    rw [mark_no (Bool.eq_false_iff.2 hp), gSet_self hr]; exact hd
  ·rw [if_neg hr]
   rw [if_neg (fun h => hr h.1)] at hd; exact hd
theorem Erase_any (h : GS O W g G) (r a b p0 p1 p2 : Int) :
 Calls Try.prog 59 #[.pointer (some ⟨g, 0, none⟩), .int .i64 r, .int .i64 a, .int .i64 b, penV p0 p1 p2] W fun e w' => e = .returned (.tuple #[]) ∧ Did O W w' g (gErase G r a b p0 p1 p2) := by
 have hb : Below W.heap.size W (((W.alloc (.cells #[.int .i64 a] 3)).alloc (.cells #[.int .i64 b] 3)).alloc (penB p0 p1 p2)) := bE
 have key := turn105 (h.below hb) r (.pointer (some ⟨W.heap.size, 0, none⟩)) (.pointer (some ⟨W.heap.size + 1, 0, none⟩)) (.pointer (some ⟨W.heap.size + 2, 0, none⟩)) (eraseC (gLn G r) a b p0 p1 p2) (penR p0 p1 p2)
  (fun hr hp => by have := gErase_ok h.ok r a b p0 p1 p2; unfold gErase at this; rw [if_pos ⟨hr, hp⟩] at this; exact this)
  (fun hr A c hC hc => erase1_any hC hc (by have := h.ok.len _ (gLn_mem hr); have := h.ok.c2; omega) a b p0 p1 p2 _ _ _ ((blk_cell (blk_alloc (blk_alloc (blk_new W (.cells #[.int .i64 a] 3)) _) _) 0).trans rfl) ((blk_cell (blk_alloc (blk_new1 W (.cells #[.int .i64 a] 3) (.cells #[.int .i64 b] 3)) _) 0).trans rfl) (blk_new2 _ _ _ _))
 have HK := aS key
 have HB := aS hb
 clear key hb h
 go_enter Try.func59, Try.ntmps59
 go_wp2_with (first | (go_at_call 104; go_must (refine HK.out.mono ?_); rintro e w1 ⟨rfl, hd⟩; have HD := aS (Did.pre HB.out hd); clear hd))
 all_goals go_end0
 exact ⟨rfl, HD.out⟩
theorem Lay_any (h : GS O W g G) (r : Int) {A : Option Addr} {c : Nat} {l : List CS} (hC : Kd.C kCl W A l.length l) (hc : l.length ≤ c) (hl : l.length ≤ 1000) (h8 : ∀ x ∈ l, W32 x) :
 Calls Try.prog 72 #[.pointer (some ⟨g, 0, none⟩), .int .i64 r, .slice A l.length c] W fun e w' => e = .returned (.bool (gLay G r l).2) ∧ Did O W w' g (gLay G r l).1 := by
 have hb : Below W.heap.size W ((W.alloc (.cells #[.pointer (some ⟨g, 0, none⟩)] 88)).alloc (.cells #[.slice A l.length c] 58)) := bE
 have key := turn109 (h.below hb) r (.pointer (some ⟨W.heap.size + 1, 0, none⟩)) (.pointer (some ⟨W.heap.size, 0, none⟩)) l (decide (l.length = G.cols ∧ rightL l = true))
  (fun hr hp => by have := gLay_ok h.ok r h8; unfold gLay at this; rw [if_pos ⟨hr, of_decide_eq_true hp⟩] at this; exact this)
  (fun hr A1 c1 hC1 hc1 => lay1_any (h.below hb) (Kd.C_below hC hb) hc hl h8 _ _ ((blk_cell (blk_new1 W (.cells #[.pointer (some ⟨g, 0, none⟩)] 88) (.cells #[.slice A l.length c] 58)) 0).trans rfl) ((blk_cell (blk_alloc (blk_new W (.cells #[.pointer (some ⟨g, 0, none⟩)] 88)) _) 0).trans rfl))
 obtain ⟨q, hq⟩ : ∃ q, decide (l.length = G.cols ∧ rightL l = true) = q := ⟨_, rfl⟩
 rw [hq] at key
 have HK := aS key
 have HQ := aS hq
 have HB := aS hb
 clear key hb h hC hc hl h8 hq
 go_enter Try.func72, Try.ntmps72
 go_wp2_with (first | (go_at_call 104; go_must (refine HK.out.mono ?_); rintro e w1 ⟨rfl, hd⟩; have HD := aS (Did.pre HB.out hd); clear hd))
 all_goals go_ret
 have hd := HD.out
 unfold gLay
 by_cases hr : gHas G r = true
 ·by_cases hp : l.length = G.cols ∧ rightL l = true
  ·have hq : q = true := by rw [← HQ.out]; exact decide_eq_true hp
   rw [if_pos ⟨hr, hq⟩] at hd
   rw [if_pos ⟨hr, hp⟩, hr, hq]
   exact ⟨rfl, hd⟩
  ·have hq : q = false := by rw [← HQ.out]; exact decide_eq_false hp
   subst hq
   rw [if_neg (fun h => by cases h.2)] at hd
   rw [if_neg (fun h => hp h.2), Bool.and_false]
   exact ⟨rfl, hd⟩
 ·rw [if_neg (fun h => hr h.1)] at hd
  rw [if_neg (fun h => hr h.1), Bool.eq_false_iff.2 hr, Bool.false_and]
  exact ⟨rfl, hd⟩
end
end Go.Proofs.Ytblcmcdifgclcaa.Grd
namespace Go.Proofs.Ytblcmcdifgclcaa.Grd
open Go.RowKit Go.Proofs.Ytblcmcdifgclcaa Go.Proofs.Ytblcmcdifgclcaa.PGridSame Go.Proofs.YtblcmcdifgclcaaW.PrintWords Go.Proofs.YtblcmcdifgclcaaW.PrintLast Go.Proofs.YtblcmcdifgclcaaW.PrintMore
set_option linter.unusedVariables false
set_option linter.unusedSimpArgs false
set_option maxRecDepth 100000
set_option maxHeartbeats 4000000
attribute [local go_sem] isSome_setCell max2_int min2_int max_two min_two
theorem infoLn : (Try.prog.info? 58).map (fun i => (i.zero, i.size, i.bytes)) = some (some (.slice none 0 0), 1, 24) := by kernel_rfl
section
variable {O : Nat → Prop} {W : World} {g : Nat} {G : GV}
theorem GS.moved (h : GS O W g G) (r c : Int) : Did O W ((W.setCell ⟨g, 0, none⟩ (.int .i64 (gBring r G.L.length))).setCell ⟨g, 1, none⟩ (.int .i64 (gBring c G.cols))) g (gMove G r c) := by
 obtain ⟨v, hx, hL⟩ := h.ex
 have h1 := blk_set (blk_set hx 0 (.int .i64 (gBring r G.L.length))) 1 (.int .i64 (gBring c G.cols))
 have hs : ∀ (W : World) (p : Addr) (u : Value), (W.setCell p u).heap.size = W.heap.size := fun W p u => by simp [World.setCell]
 refine ⟨O, ⟨h.og, fun k hk => by rw [hs, hs]; exact h.ob k hk, gMove_ok h.ok r c, v, by simpa [gMove] using h1, ?_⟩, fun k hk => .inl hk, ((Wr.refl O W).set (.inl h.og) _).set (.inl h.og) _⟩
 refine hL.step (fun k hk _ => ?_)
 rw [Below.heap_setCell _ _ _ k hk.2, Below.heap_setCell _ _ _ k hk.2]
theorem Move_any (h : GS O W g G) (r c : Int) : Calls Try.prog 60 #[.pointer (some ⟨g, 0, none⟩), .int .i64 r, .int .i64 c] W fun e w' => e = .returned (.tuple #[]) ∧ Did O W w' g (gMove G r c) := by
 obtain ⟨b, cap, h0, h1, h2, h3, -, -, -⟩ := h.cells
 obtain ⟨v, hx, -⟩ := h.ex
 have f0 := blk_frozen hx 0
 have f1 := blk_frozen hx 1
 have HS := aS h
 have hw1 : wrap64 ((G.L.length : Int) - 1) = (G.L.length : Int) - 1 := w64 (by omega) (by have := h.ok.r2; omega)
 have hw2 : wrap64 ((G.cols : Int) - 1) = (G.cols : Int) - 1 := w64 (by omega) (by have := h.ok.c2; omega)
 have hm : ∀ (x : Int) (n : Nat), (if (n : Int) - 1 < (if x < 0 then 0 else x) then (n : Int) - 1 else (if x < 0 then 0 else x)) = gBring x n := fun x n => by unfold gBring mn mx; rfl
 clear h hx
 go_enter Try.func60, Try.ntmps60
 go_wp2
 refine start_ (n := 22) (S := fun w' => w'.cell? ⟨g, 2, none⟩ = some (.slice (some ⟨b, 0, none⟩) G.L.length cap) ∧ w'.cell? ⟨g, 3, none⟩ = some (.int .i64 G.cols)) (ds := [21]) (tb 22 0) (by kernel_rfl) rfl rfl ⟨h2, h3⟩ (fun hHeld => ?_)
 refine tP 0 (some 8) (tb 22 1) ?_
 refine tP 1 (some 9) (tb 22 3) ?_
 refine tP 2 (some 10) (tb 22 7) ?_
 refine tP 3 (some 11) (tb 22 15) ?_
 refine tP 4 (some 12) (tb 22 31) ?_
 refine tP 5 (some 13) (tb 22 63) ?_
 refine tP 10 (some 18) (tb 22 1087) ?_
 refine tP 11 (some 19) (tb 22 3135) ?_
 refine tP 12 (some 20) (tb 22 7231) ?_
 refine tP 13 (some 21) (tb 22 15423) ?_
 refine tP 14 (some 22) (tb 22 31807) ?_
 refine tK 6 (some 14) (tb 22 31871) ?_
 refine tP 7 (some 15) (tb 22 31999) ?_
 refine tP 8 (some 16) (tb 22 32255) ?_
 refine tP 9 (some 17) (tb 22 32767) ?_
 refine tK 15 (some 23) (tb 22 65535) ?_
 refine tP 16 (some 24) (tb 22 131071) ?_
 refine tP 17 (some 25) (tb 22 262143) ?_
 refine tP 18 (some 26) (tb 22 524287) ?_
 refine tP 19 (some 27) (tb 22 1048575) ?_
 refine tP 20 (some 28) (tb 22 2097151) ?_
 refine last_ (i := 21) (N := none) (tb 22 4194303) rfl rfl (by kernel_rfl) (by decide) (fun K hK => ?_)
 refine skip_ (w1 := ?_) (by rfl) rfl ?_ ?_
 rotate_left
 ·go_simp
  rfl
 refine hK.out _ _ ?_
 clear hK K
 refine done_ (by kernel_rfl) ?_
 all_goals go_wp2
 all_goals go_end0
 all_goals exact ⟨rfl, (HS.out.moved r c).below bE⟩
end
structure GB (w W : World) (g : Nat) (row col : Int) (cols : Nat) (v : Value) (L : List (List CS)) : Prop where
 hb : Below w.heap.size w W
 ge : w.heap.size ≤ g
 bx : W.heap[g]? = some (.cells #[.int .i64 row, .int .i64 col, v, .int .i64 cols] 139 (0, 0))
 rows : Kd.N kL tLn W (g + 1) (fun k => g < k) v L
def Fresh (w W : World) (g : Nat) (G : GV) : Prop := GS (fun k => w.heap.size ≤ k ∧ k < W.heap.size) W g G ∧ Below w.heap.size w W
section
variable {w W W1 : World} {g : Nat} {row col : Int} {cols : Nat} {v v1 : Value} {L : List (List CS)}
theorem GB.below (h : GB w W g row col cols v L) (hb : Below W.heap.size W W1) : GB w W1 g row col cols v L :=
 ⟨below_then h.hb h.hb.size hb, h.ge, blk_below h.bx hb, Kd.N_below h.rows hb⟩
theorem GB.lt (h : GB w W g row col cols v L) : g < W.heap.size := blk_lt h.bx
theorem GB.cell (h : GB w W g row col cols v L) : W.cell? ⟨g, 2, none⟩ = some v ∧ W.frozen? ⟨g, 2, none⟩ = false := ⟨(blk_cell h.bx 2).trans rfl, blk_frozen h.bx 2⟩
theorem GB.noown (h : GB w W g row col cols v L) : some g ≠ v.ownBlock := fun e => by have := h.rows.1 g e.symm; omega
theorem GB.new (hb : Below w.heap.size w W) (row col : Int) (cols : Nat) : GB w (W.alloc (.cells #[.int .i64 row, .int .i64 col, .slice none 0 0, .int .i64 cols] 139 (0, 0))) W.heap.size row col cols (.slice none 0 0) [] :=
 ⟨below_alloc hb _, hb.size, blk_new _ _, Kd.N_nil _ _ _ _ _⟩
theorem GB.more (h : GB w W g row col cols v L) {L1 : List (List CS)} (hN : Kd.N kL tLn W1 (g + 1) (fun k => g < k) v1 L1) (hg : W.grownBy W1 v.ownBlock) :
 W1.cell? ⟨g, 2, none⟩ = some v ∧ W1.frozen? ⟨g, 2, none⟩ = false ∧ GB w (W1.setCell ⟨g, 2, none⟩ v1) g row col cols v1 L1 := by
 have hx := blk_grown h.bx hg h.noown
 refine ⟨(blk_cell hx 2).trans rfl, blk_frozen hx 2, (h.hb.grown hg h.hb.size (fun k hk => by have := h.rows.1 k hk; have := h.ge; omega)).setCell h.ge _, h.ge, by simpa using blk_set hx 2 v1, Kd.N_far hN (fun k hk => Nat.ne_of_gt hk) _⟩
theorem GB.done (h : GB w W g row col cols v L) (hok : (⟨L, cols, row, col⟩ : GV).ok) : Fresh w W g ⟨L, cols, row, col⟩ := by
 refine ⟨⟨⟨h.ge, h.lt⟩, fun k hk => hk.2, hok, v, h.bx, ?_⟩, h.hb⟩
 refine (GL.ofN (by have := hok.r1; exact this) (Kd.N_bound h.rows)).mono (fun k hk => ⟨⟨Nat.le_trans h.ge (Nat.le_of_lt hk.1), hk.2⟩, Nat.ne_of_gt hk.1⟩)
theorem Fresh.below {G : GV} (h : Fresh w W g G) (hb : Below W.heap.size W W1) : Fresh w W1 g G := by
 have h1 := h.1.below hb
 refine ⟨⟨⟨h1.og.1, Nat.lt_of_lt_of_le h1.og.2 hb.size⟩, fun k hk => hk.2, h1.ok, ?_⟩, below_then h.2 h.2.size hb⟩
 obtain ⟨v, hx, hL⟩ := h1.ex
 exact ⟨v, hx, hL.mono (fun k hk => ⟨⟨hk.1.1, Nat.lt_of_lt_of_le hk.1.2 hb.size⟩, hk.2⟩)⟩
theorem Fresh.then_ {G G1 : GV} {g1 : Nat} (h : Fresh w W g G) (hd : Did (fun k => w.heap.size ≤ k ∧ k < W.heap.size) W W1 g1 G1) : Fresh w W1 g1 G1 := by
 obtain ⟨O', h1, h2, h3⟩ := hd
 obtain ⟨v, hx, hL⟩ := h1.ex
 have hin : ∀ k, O' k → w.heap.size ≤ k ∧ k < W1.heap.size := fun k hk => ⟨(h2 k hk).elim (fun h => h.1) (fun h' => Nat.le_trans h.2.size h'), h1.ob k hk⟩
 refine ⟨⟨hin _ h1.og, fun k hk => hk.2, h1.ok, v, hx, hL.mono (fun k hk => ⟨hin k hk.1, hk.2⟩)⟩, ?_⟩
 exact h.2.trans (h3.toBelow h.2.size (fun k hk => hk.1))
end
end Go.Proofs.Ytblcmcdifgclcaa.Grd
namespace Go.Proofs.Ytblcmcdifgclcaa.Grd
open Go.RowKit Go.Proofs.Ytblcmcdifgclcaa Go.Proofs.Ytblcmcdifgclcaa.PGridSame Go.Proofs.YtblcmcdifgclcaaW.PrintWords Go.Proofs.YtblcmcdifgclcaaW.PrintLast Go.Proofs.YtblcmcdifgclcaaW.PrintMore
set_option linter.unusedVariables false
set_option linter.unusedSimpArgs false
set_option maxRecDepth 100000
set_option maxHeartbeats 4000000
attribute [local go_sem] isSome_setCell max2_int min2_int max_two min_two
theorem side_ok {x : Int} (h : 1 ≤ x ∧ x ≤ 512) : grid_side.f x = some true := by unfold grid_side.f; rw [if_pos h.1, decide_eq_true h.2]
theorem side_no {x : Int} (h : ¬ (1 ≤ x ∧ x ≤ 512)) : grid_side.f x = some false := by
 unfold grid_side.f
 by_cases h1 : x ≥ 1
 ·rw [if_pos h1, decide_eq_false (by omega)]
 ·rw [if_neg h1]
theorem New_any (rows cols : Int) (hs : gSize rows cols = true) (w : World) :
 Calls Try.prog 76 #[.int .i64 rows, .int .i64 cols] w fun e w' => ∃ g, e = .returned (.tuple #[.pointer (some ⟨g, 0, none⟩), .int .i64 0]) ∧ Fresh w w' g (gNew rows cols) := by
 have HG := aS (gNew_ok hs)
 unfold gSize at hs
 rw [Bool.and_eq_true, decide_eq_true_eq, decide_eq_true_eq] at hs
 obtain ⟨h1, h2⟩ := hs
 obtain ⟨n, rfl⟩ : ∃ n : Nat, rows = (n : Int) := ⟨rows.toNat, by omega⟩
 obtain ⟨m, rfl⟩ : ∃ m : Nat, cols = (m : Int) := ⟨cols.toNat, by omega⟩
 have HS1 := aS (side_ok h1)
 have HS2 := aS (side_ok h2)
 have HNM := aS (And.intro h1 h2)
 have HL := aS (lenC_id h2)
 clear h1 h2
 go_enter Try.func76, Try.ntmps76
 go_wp2_with (first | (go_at_call 112; refine (grid_side.calls (n : Int) _ _ HS1.out).mono ?_; rintro e w1 ⟨rfl, hd⟩; have H1 := aS hd.below; clear hd) | (go_at_call 112; refine (grid_side.calls (m : Int) _ _ HS2.out).mono ?_; rintro e w2 ⟨rfl, hd⟩; have H2 := aS (below_step H1.out hd.below); clear hd))
 have HB0 := aS (GB.new H2.out 0 0 m)
 obtain ⟨g, hg⟩ : ∃ g, w2.heap.size = g := ⟨_, rfl⟩
 rw [hg] at HB0 ⊢
 obtain ⟨wl, hwl⟩ : ∃ wl, w2.alloc (.cells #[.int .i64 0, .int .i64 0, .slice none 0 0, .int .i64 m] 139 (0, 0)) = wl := ⟨_, rfl⟩
 rw [hwl] at HB0 ⊢
 obtain ⟨lb, hlb⟩ : ∃ lb, List.replicate (lenC (m : Int)) (blankP 0 0 0) = lb := ⟨_, rfl⟩
 have HLB := aS hlb
 have HNW := aS (show line_New.f 1000 (m : Int) = some lb by rw [New_ok (m : Int) 1000 (by omega), hlb])
 clear hg hwl hlb H1 H2 HS1 HS2
 go_loopg [19] (n + 1) (fun kq v19 w' => ∃ (i : Nat) (v : Value), v19 = .int .i64 i ∧ Aside0 (kq = n - i + 1 ∧ i ≤ n) ∧ Aside0 (GB w w' g 0 0 m v (List.replicate i lb)))
 case atStart => exact ⟨0, _, by go_num, ⟨by omega, by omega⟩, HB0⟩
 case round =>
  obtain ⟨i, v, rfl, HK, HB⟩ := hrel
  by_cases hi : i < n
  ·have hT : decide (i < n) = true := decide_eq_true (by omega)
   have hw1 : wrap64 ((i : Int) + 1) = ((i + 1 : Nat) : Int) := by rw [w64 (by omega) (by have := HNM.out; omega)]; omega
   have HI := aS hi
   have hc2 := HB.out.cell.1
   clear hi
   go_wp2
   refine start_ (n := 12) (S := fun w' => w'.cell? ⟨g, 2, none⟩ = some v) (ds := [8, 11]) (tb 12 0) (by kernel_rfl) rfl rfl (hc2) (fun hHeld => ?_)
   refine tP 0 (some 21) (tb 12 1) ?_
   refine tP 1 (some 22) (tb 12 3) ?_
   refine tP 2 (some 23) (tb 12 7) ?_
   refine tP 3 (some 24) (tb 12 15) ?_
   refine tP 5 (some 26) (tb 12 47) ?_
   refine take_ (i := 4) (N := some 25) (v := ?_) (a' := ?_) (tb 12 63) rfl rfl (by kernel_rfl) (fun _ _ _ h => h) (Or.inl ⟨by rfl, ?_⟩) hHeld ?_ ?_
   rotate_left
   ·intro w' s0
    go_simp
    with_reducible rfl
   rotate_left
   ·simp only [Act.put, List.setIfInBounds_toArray, List.set_cons_zero, List.set_cons_succ, i64_w, i32_w]
    rfl
   refine sO 6 (some 27) (tb 12 127) (fun K hK => ?_)
   refine gO Try.func51 #[.int .i64 m] ?_
   with_reducible refine (line_New.calls 1000 (m : Int) lb _ HNW.out).mono ?_
   rintro e w6 ⟨v6, rfl, hR, hb⟩
   refine ⟨_, rfl, ?_⟩
   obtain ⟨A6, c6, rfl, hc6, -⟩ := Kd.R_reads hR
   have H6 := aS (And.intro (HB.out.below (below_step bE hb)) (show Kd.FK kL w6 (fun k => wr.heap.size ≤ k) lb [.slice A6 lb.length c6] from Kd.FK_slice_mk hc6 (Kd.F_mono (Kd.R_F (Kd.R_bound hR)) (fun k hk => hk.2.1))))
   clear hR hb hc6
   refine hK.out _ _ (H6.out.1.cell.1) (fun hHeld => ?_)
   clear hK K
   refine nm ?_
   refine sO 7 (some 28) (tb 12 255) (fun K hK => ?_)
   refine value_ (w1 := ?_) (v := ?_) (by rfl) rfl ?_ ?_
   rotate_left 2
   ·go_simp
    constructor
    ·rfl
    ·rfl
   refine hK.out _ _ ((H6.out.1.below bE).cell.1) (fun hHeld => ?_)
   clear hK K
   refine nm ?_
   refine last_ (i := 8) (N := some 29) (tb 12 511) rfl rfl (by kernel_rfl) (by decide) (fun K hK => ?_)
   refine Kd.N_append_step kL (w0 := w6) (g + 1) (by rfl) (.tmp 25) (.tmp 28) 137 58 (.slice none 0 0) 24 (by rfl) Try.underlying137 infoLn rfl (by decide) (by omega) v (List.replicate i lb) lb [.slice A6 lb.length c6] (fun k => g < k) (fun k => wr.heap.size ≤ k) (by rfl) (by rfl) (Kd.FK_below H6.out.2 bE) ?hokp ?hfresh (Kd.N_below H6.out.1.rows bE) bE ?hsz ?hlen ?_
   case hokp => intro k hk; exact ⟨Nat.lt_of_lt_of_le HB.out.lt hk, fun e => by have := Kd.N_lt HB.out.rows k e.symm; omega⟩
   case hfresh => intro k hk; exact Nat.lt_of_lt_of_le H6.out.1.lt hk
   case hsz => exact H6.out.1.lt
   case hlen => have := HNM.out; have := HI.out; rw [List.length_replicate]; omega
   intro v8 w8 ho hb hg8 hat
   obtain ⟨A8, c8, e8⟩ := Kd.N_slice ho
   generalize (List.replicate i lb ++ [lb]).length = n8 at e8
   subst e8
   have H8 := aS (H6.out.1.more ho hg8)
   have hc8 := H8.out.1
   have hz8 := H8.out.2.1
   clear ho hb hg8 hat
   refine hK.out _ _ ?_
   clear hK K
   refine nm ?_
   refine tP 9 (some 30) (tb 12 1023) ?_
   refine tP 10 (some 31) (tb 12 2047) ?_
   refine last_ (i := 11) (N := none) (tb 12 4095) rfl rfl (by kernel_rfl) (by decide) (fun K hK => ?_)
   refine skip_ (w1 := ?_) (by rfl) rfl ?_ ?_
   rotate_left
   ·go_simp
    rfl
   refine hK.out _ _ ?_
   clear hK K
   refine done_ (by kernel_rfl) ?_
   all_goals go_wp2
   all_goals go_roundg (n - (i + 1) + 1)
   all_goals first | (case measure => have := HK.out; have := HI.out; omega) | (case rel => exact ⟨i + 1, _, by go_num, ⟨rfl, by have := HI.out; omega⟩, ⟨by rw [List.replicate_succ']; exact H8.out.2.2⟩⟩)
  ·have hT : decide (i < n) = false := decide_eq_false hi
   obtain rfl : i = n := by have := HK.out; omega
   clear hi
   go_wp2
   all_goals go_ret2
   refine ⟨g, rfl, ?_⟩
   have := HB.out.done (by have := HG.out; unfold gNew at this; rw [HLB.out] at this; exact this)
   unfold gNew
   rw [HLB.out]
   exact this
theorem New_no (rows cols : Int) (hs : gSize rows cols = false) (w : World) :
 Calls Try.prog 76 #[.int .i64 rows, .int .i64 cols] w fun e w' => e = .returned (.tuple #[.pointer none, .int .i64 11]) ∧ Below w.heap.size w w' := by
 by_cases h1 : 1 ≤ rows ∧ rows ≤ 512
 ·have h2 : ¬ (1 ≤ cols ∧ cols ≤ 512) := fun h2 => by unfold gSize at hs; rw [decide_eq_true h1, decide_eq_true h2] at hs; cases hs
  have HS1 := aS (side_ok h1)
  have HS2 := aS (side_no h2)
  have hne : rows ≠ cols := fun e => h2 (e ▸ h1)
  have HN := aS hne
  clear h1 h2 hs hne
  go_enter Try.func76, Try.ntmps76
  go_wp2_with (first | (go_at_call 112; refine (grid_side.calls rows _ _ HS1.out).mono ?_; rintro e w1 ⟨rfl, hd⟩; have H1 := aS hd.below; clear hd) | (go_at_call 112; refine (grid_side.calls cols _ _ HS2.out).mono ?_; rintro e w2 ⟨rfl, hd⟩; have H2 := aS (below_step H1.out hd.below); clear hd))
  all_goals go_ret2
  all_goals exact ⟨rfl, H2.out⟩
 ·have HS1 := aS (side_no h1)
  clear h1 hs
  go_enter Try.func76, Try.ntmps76
  go_wp2_with (first | (go_at_call 112; refine (grid_side.calls rows _ _ HS1.out).mono ?_; rintro e w1 ⟨rfl, hd⟩; have H1 := aS hd.below; clear hd))
  all_goals go_ret2
  all_goals exact ⟨rfl, H1.out⟩
end Go.Proofs.Ytblcmcdifgclcaa.Grd
