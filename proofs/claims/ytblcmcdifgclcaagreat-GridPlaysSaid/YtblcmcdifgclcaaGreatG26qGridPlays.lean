/- GridPlays: what its proof leads to. No condition. -/
import Derived.Test.YtblcmcdifgclcaaGreatG6qGridPlays
import Derived.Test.YtblcmcdifgclcaaGreatG23qGridPlays
import Derived.Test.YtblcmcdifgclcaaGreatG24qGridPlays
import Derived.Test.YtblcmcdifgclcaaGreatG25qGridPlays
namespace Go.Proofs.YtblcmcdifgclcaaGreat.Grd
open Go.RowKit Go.Proofs.YtblcmcdifgclcaaGreat Go.Proofs.YtblcmcdifgclcaaGreat.PGridPlays Go.Proofs.YtblcmcdifgclcaaGreatW.PrintWords Go.Proofs.YtblcmcdifgclcaaGreatW.PrintLast Go.Proofs.YtblcmcdifgclcaaGreatW.PrintMore
set_option linter.unusedVariables false
set_option linter.unusedSimpArgs false
set_option maxRecDepth 100000
set_option maxHeartbeats 4000000
attribute [local go_sem] isSome_setCell max2_int min2_int max_two min_two
abbrev cellV (x : CS) : Value := .agg #[.int .i32 x.f0, .int .i32 x.f1.f0, .int .i32 x.f1.f1, .int .u8 x.f2, .int .u8 x.f3.f0, .int .u8 x.f3.f1, .int .u8 x.f3.f2]
abbrev cellB (x : CS) : Obj := .cells #[.int .i32 x.f0, .int .i32 x.f1.f0, .int .i32 x.f1.f1, .int .u8 x.f2, .int .u8 x.f3.f0, .int .u8 x.f3.f1, .int .u8 x.f3.f2] 40 (0, 0)
abbrev penV (p0 p1 p2 : Int) : Value := .agg #[.int .u8 p0, .int .u8 p1, .int .u8 p2]
abbrev penB (p0 p1 p2 : Int) : Obj := .cells #[.int .u8 p0, .int .u8 p1, .int .u8 p2] 38 (0, 0)
theorem size_al (W : World) (o : Obj) : (W.alloc o).heap.size = W.heap.size + 1 := by show (W.heap.push o).size = _; exact Array.size_push ..
theorem blk_new1 (W : World) (o1 o2 : Obj) : ((W.alloc o1).alloc o2).heap[W.heap.size + 1]? = some o2 := by have := blk_new (W.alloc o1) o2; rwa [size_al] at this
theorem blk_new2 (W : World) (o1 o2 o3 : Obj) : (((W.alloc o1).alloc o2).alloc o3).heap[W.heap.size + 2]? = some o3 := by have := blk_new1 (W.alloc o1) o2 o3; rwa [size_al] at this
theorem Did.pre {O : Nat → Prop} {W W1 W2 : World} {g : Nat} {G : GV} (hb : Below W.heap.size W W1) (h : Did O W1 W2 g G) : Did O W W2 g G := by
 obtain ⟨O', h1, h2, h3⟩ := h
 exact ⟨O', h1, fun k hk => (h2 k hk).imp id (fun h => Nat.le_trans hb.size h), (Wr.of_below hb O).trans h3 (fun k hk => .inl hk)⟩
theorem gSet_self {G : GV} {r : Int} (h : gHas G r = true) : gSet G r (gLn G r) = G := by
 obtain ⟨n, rfl, hn, hg⟩ := has_row h
 unfold gSet
 rw [Int.toNat_natCast]
 have : G.L.set n (gLn G (n : Int)) = G.L := by
  refine List.ext_getElem? fun j => ?_
  rw [List.getElem?_set]
  split
  ·rename_i hj; subst hj; rw [hg]
  ·rfl
 rw [this]
theorem pR_ok (a b c : Int) : pen_Right.f a b c = some (penR a b c) := by
 unfold pen_Right.f penR
 by_cases h1 : a < 32 <;> by_cases h2 : b < 17 <;> simp [h1, h2]
section
variable {W : World} {A : Option Addr} {c : Nat} {l : List CS}
theorem put1_any (hC : Kd.C kCl W A l.length l) (hc : l.length ≤ c) (hl : l.length ≤ 1000) (i : Int) (hi : -9223372036854775808 ≤ i ∧ i ≤ 9223372036854775807) (x : CS) (hx : W32 x) (g1 g2 : Nat) (h1 : W.cell? ⟨g1, 0, none⟩ = some (.int .i64 i)) (h2 : W.heap[g2]? = some (cellB x)) :
 Calls Tryz.prog 57 #[.slice A l.length c, .pointer (some ⟨g1, 0, none⟩), .pointer (some ⟨g2, 0, none⟩)] W (LR W (putC l i x) (putOk l i x)) := by
 have c0 := (blk_cell h2 0).trans rfl
 have c1 := (blk_cell h2 1).trans rfl
 have c2 := (blk_cell h2 2).trans rfl
 have c3 := (blk_cell h2 3).trans rfl
 have c4 := (blk_cell h2 4).trans rfl
 have c5 := (blk_cell h2 5).trans rfl
 have c6 := (blk_cell h2 6).trans rfl
 have HC := aS (And.intro hC (And.intro hc (Put_ok l i x hi hx.2.2.2 (by omega) 10 (by omega))))
 clear hC hc hl h2
 go_enter Tryz.func57, Tryz.ntmps57
 go_wp2_with (first | (go_at_call 58; refine (line_Put.calls 10 A c l i _ _ _ _ _ _ _ _ _ _ HC.out.1 HC.out.2.1 HC.out.2.2).mono ?_; rintro e w1 ⟨v, rfl, hR, hb⟩; have HR := aS (And.intro hR hb); clear hR hb))
 all_goals go_ret2
 all_goals exact LR.ofR HR.out.1 HR.out.2
theorem mark1_any (hC : Kd.C kCl W A l.length l) (hc : l.length ≤ c) (hl : l.length ≤ 1000) (i m : Int) (g1 g2 : Nat) (h1 : W.cell? ⟨g1, 0, none⟩ = some (.int .i64 i)) (h2 : W.cell? ⟨g2, 0, none⟩ = some (.int .i32 m)) :
 Calls Tryz.prog 68 #[.slice A l.length c, .pointer (some ⟨g1, 0, none⟩), .pointer (some ⟨g2, 0, none⟩)] W (LR W (markL l i m) (markOk l i m)) := by
 have HC := aS (And.intro hC (And.intro hc (Mark_ok l i m (by omega) 10 (by omega))))
 clear hC hc hl
 go_enter Tryz.func68, Tryz.ntmps68
 go_wp2_with (first | (go_at_call 69; refine (line_Mark.calls 10 A c l i m _ _ _ HC.out.1 HC.out.2.1 HC.out.2.2).mono ?_; rintro e w1 ⟨v, rfl, hR, hb⟩; have HR := aS (And.intro hR hb); clear hR hb))
 all_goals go_ret2
 all_goals exact LR.ofR HR.out.1 HR.out.2
theorem erase1_any (hC : Kd.C kCl W A l.length l) (hc : l.length ≤ c) (hl : l.length ≤ 1000) (a b p0 p1 p2 : Int) (g1 g2 g3 : Nat) (h1 : W.cell? ⟨g1, 0, none⟩ = some (.int .i64 a)) (h2 : W.cell? ⟨g2, 0, none⟩ = some (.int .i64 b)) (h3 : W.heap[g3]? = some (penB p0 p1 p2)) :
 Calls Tryz.prog 70 #[.slice A l.length c, .pointer (some ⟨g1, 0, none⟩), .pointer (some ⟨g2, 0, none⟩), .pointer (some ⟨g3, 0, none⟩)] W (LR W (eraseC l a b p0 p1 p2) (penR p0 p1 p2)) := by
 have c0 := (blk_cell h3 0).trans (rfl : _ = some (Value.int .u8 p0))
 have c1 := (blk_cell h3 1).trans (rfl : _ = some (Value.int .u8 p1))
 have c2 := (blk_cell h3 2).trans (rfl : _ = some (Value.int .u8 p2))
 have HC := aS (And.intro hC (And.intro hc (Erase_ok l a b p0 p1 p2 (by omega) 2000 (by omega))))
 have H3 := aS h3
 clear hC hc hl h3
 go_enter Tryz.func70, Tryz.ntmps70
 go_wp2
 refine start_ (n := 9) (S := fun w' => w'.cell? ⟨g1, 0, none⟩ = some (.int .i64 a) ∧ w'.cell? ⟨g2, 0, none⟩ = some (.int .i64 b) ∧ w'.cell? ⟨g3, 0, none⟩ = some (.int .u8 p0) ∧ w'.cell? ⟨g3, 1, none⟩ = some (.int .u8 p1) ∧ w'.cell? ⟨g3, 2, none⟩ = some (.int .u8 p2)) (ds := []) (tb 9 0) (by kernel_rfl) rfl rfl ⟨h1, h2, c0, c1, c2⟩ (fun hHeld => ?_)
 refine tP 0 (some 7) (tb 9 1) ?_
 refine tK 1 (some 8) (tb 9 3) ?_
 refine tK 2 (some 9) (tb 9 7) ?_
 refine tK 3 (some 10) (tb 9 15) ?_
 refine tK 5 (some 12) (tb 9 47) ?_
 refine sO 4 (some 11) (tb 9 63) (fun K hK => ?_)
 refine gO Tryz.func60 #[.slice A l.length c, .int .i64 a, .int .i64 b, .agg #[.int .u8 p0, .int .u8 p1, .int .u8 p2]] ?_
 with_reducible refine (line_Erase.calls 2000 A c l a b p0 p1 p2 _ _ (Kd.C_below HC.out.1 bE) HC.out.2.1 HC.out.2.2).mono ?_
 rintro e w4 ⟨v, rfl, hR, hb⟩
 refine ⟨_, rfl, ?_⟩
 have H4 := aS (And.intro (Kd.R_lower hR (show W.heap.size ≤ _ from Nat.le_refl _)) (show Below W.heap.size W w4 from below_step bE hb))
 clear hR hb
 refine hK.out _ _ ⟨(pw_cell_below H4.out.2 h1), (pw_cell_below H4.out.2 h2), (pw_cell_below H4.out.2 c0), (pw_cell_below H4.out.2 c1), (pw_cell_below H4.out.2 c2)⟩ (fun hHeld => ?_)
 clear hK K
 refine nm ?_
 refine sO 6 (some 13) (tb 9 127) (fun K hK => ?_)
 refine gO Tryz.func59 #[.agg #[.int .u8 p0, .int .u8 p1, .int .u8 p2]] ?_
 with_reducible refine (pen_Right.calls p0 p1 p2 _ _ (pR_ok p0 p1 p2)).mono ?_
 rintro e w6 ⟨rfl, hb⟩
 refine ⟨_, rfl, ?_⟩
 have H6 := aS (And.intro (Kd.R_below H4.out.1 hb) (below_step H4.out.2 hb))
 clear hb
 refine hK.out _ _ ⟨(pw_cell_below H6.out.2 h1), (pw_cell_below H6.out.2 h2), (pw_cell_below H6.out.2 c0), (pw_cell_below H6.out.2 c1), (pw_cell_below H6.out.2 c2)⟩ (fun hHeld => ?_)
 clear hK K
 refine nm ?_
 refine tP 7 (some 5) (tb 9 255) ?_
 refine tP 8 (some 6) (tb 9 511) ?_
 refine done_ (by kernel_rfl) ?_
 all_goals go_wp2
 all_goals go_ret2
 all_goals exact LR.ofR H6.out.1 H6.out.2
theorem lay1_any {O : Nat → Prop} {g : Nat} {G : GV} (h : GS O W g G) {A0 : Option Addr} {c0 : Nat} {l0 : List CS} (hC : Kd.C kCl W A l.length l) (hc : l.length ≤ c) (hl : l.length ≤ 1000) (h8 : ∀ x ∈ l, W32 x) (g1 g2 : Nat) (h1 : W.cell? ⟨g1, 0, none⟩ = some (.slice A l.length c)) (h2 : W.cell? ⟨g2, 0, none⟩ = some (.pointer (some ⟨g, 0, none⟩))) :
 Calls Tryz.prog 73 #[.slice A0 l0.length c0, .pointer (some ⟨g1, 0, none⟩), .pointer (some ⟨g2, 0, none⟩)] W (LR W l (decide (l.length = G.cols ∧ rightL l = true))) := by
 obtain ⟨b, cap, -, -, -, h3, -⟩ := h.cells
 have HC := aS (And.intro hC (And.intro hc (And.intro (show cell_Cell_52.f l = some l by unfold cell_Cell_52.f; rw [if_pos (by omega)]) (Right_ok l (fun x hx => (h8 x hx).2.2.2) (by omega) 2000 (by omega)))))
 by_cases he : l.length = G.cols
 ·have he' : ((l.length : Int) == (G.cols : Int)) = true := beq_iff_eq.2 (by omega)
  rw [show decide (l.length = G.cols ∧ rightL l = true) = rightL l by simp [he]]
  clear h hC hc hl h8 he
  go_enter Tryz.func73, Tryz.ntmps73
  go_wp2
  refine start_ (n := 15) (S := fun w' => w'.cell? ⟨g1, 0, none⟩ = some (.slice A l.length c) ∧ w'.cell? ⟨g2, 0, none⟩ = some (.pointer (some ⟨g, 0, none⟩)) ∧ w'.cell? ⟨g, 3, none⟩ = some (.int .i64 G.cols)) (ds := []) (tb 15 0) (by kernel_rfl) rfl rfl ⟨h1, h2, h3⟩ (fun hHeld => ?_)
  refine tK 0 (some 6) (tb 15 1) ?_
  refine tK 2 (some 8) (tb 15 5) ?_
  refine tP 3 (some 9) (tb 15 13) ?_
  refine tK 4 (some 10) (tb 15 29) ?_
  refine tP 5 (some 11) (tb 15 61) ?_
  refine tP 6 (some 12) (tb 15 125) ?_
  refine tK 7 (some 13) (tb 15 253) ?_
  refine tP 8 (some 14) (tb 15 509) ?_
  refine sO 1 (some 7) (tb 15 511) (fun K hK => ?_)
  refine gO Tryz.func52 #[.slice A l.length c] ?_
  with_reducible refine (cell_Cell_52.calls A c l l _ (Kd.C_below HC.out.1 bE) HC.out.2.1 HC.out.2.2.1).mono ?_
  rintro e w4 ⟨v, rfl, hR, hb⟩
  refine ⟨_, rfl, ?_⟩
  have H4 := aS (And.intro (Kd.R_lower hR (show W.heap.size ≤ _ from Nat.le_refl _)) (show Below W.heap.size W w4 from below_step bE hb))
  clear hR hb
  refine hK.out _ _ ⟨(pw_cell_below H4.out.2 h1), (pw_cell_below H4.out.2 h2), (pw_cell_below H4.out.2 h3)⟩ (fun hHeld => ?_)
  clear hK K
  refine nm ?_
  refine tP 9 (some 15) (tb 15 1023) ?_
  refine tK 10 (some 16) (tb 15 2047) ?_
  refine sO 11 (some 17) (tb 15 4095) (fun K hK => ?_)
  refine gO Tryz.func49 #[.slice A l.length c] ?_
  with_reducible refine (line_Right.calls A c l _ _ (Kd.C_below HC.out.1 H4.out.2) HC.out.2.1 HC.out.2.2.2).mono ?_
  rintro e w6 ⟨rfl, hb⟩
  refine ⟨_, rfl, ?_⟩
  have H6 := aS (And.intro (Kd.R_below H4.out.1 hb) (below_step H4.out.2 hb))
  clear hb
  refine hK.out _ _ ⟨(pw_cell_below H6.out.2 h1), (pw_cell_below H6.out.2 h2), (pw_cell_below H6.out.2 h3)⟩ (fun hHeld => ?_)
  clear hK K
  refine nm ?_
  refine tP 12 (some 18) (tb 15 8191) ?_
  refine tP 13 (some 4) (tb 15 16383) ?_
  refine tP 14 (some 5) (tb 15 32767) ?_
  refine done_ (by kernel_rfl) ?_
  all_goals go_wp2
  all_goals go_ret2
  all_goals exact LR.ofR H6.out.1 H6.out.2
 ·have he' : ((l.length : Int) == (G.cols : Int)) = false := beq_eq_false_iff_ne.2 (by omega)
  rw [show decide (l.length = G.cols ∧ rightL l = true) = false by simp [he]]
  clear h hC hc hl h8 he
  go_enter Tryz.func73, Tryz.ntmps73
  go_wp2
  refine start_ (n := 15) (S := fun w' => w'.cell? ⟨g1, 0, none⟩ = some (.slice A l.length c) ∧ w'.cell? ⟨g2, 0, none⟩ = some (.pointer (some ⟨g, 0, none⟩)) ∧ w'.cell? ⟨g, 3, none⟩ = some (.int .i64 G.cols)) (ds := []) (tb 15 0) (by kernel_rfl) rfl rfl ⟨h1, h2, h3⟩ (fun hHeld => ?_)
  refine tK 0 (some 6) (tb 15 1) ?_
  refine tK 2 (some 8) (tb 15 5) ?_
  refine tP 3 (some 9) (tb 15 13) ?_
  refine tK 4 (some 10) (tb 15 29) ?_
  refine tP 5 (some 11) (tb 15 61) ?_
  refine tP 6 (some 12) (tb 15 125) ?_
  refine tK 7 (some 13) (tb 15 253) ?_
  refine tP 8 (some 14) (tb 15 509) ?_
  refine sO 1 (some 7) (tb 15 511) (fun K hK => ?_)
  refine gO Tryz.func52 #[.slice A l.length c] ?_
  with_reducible refine (cell_Cell_52.calls A c l l _ (Kd.C_below HC.out.1 bE) HC.out.2.1 HC.out.2.2.1).mono ?_
  rintro e w4 ⟨v, rfl, hR, hb⟩
  refine ⟨_, rfl, ?_⟩
  have H4 := aS (And.intro (Kd.R_lower hR (show W.heap.size ≤ _ from Nat.le_refl _)) (show Below W.heap.size W w4 from below_step bE hb))
  clear hR hb
  refine hK.out _ _ ⟨(pw_cell_below H4.out.2 h1), (pw_cell_below H4.out.2 h2), (pw_cell_below H4.out.2 h3)⟩ (fun hHeld => ?_)
  clear hK K
  refine nm ?_
  refine tP 9 (some 15) (tb 15 1023) ?_
  refine tU 10 (some 16) (tb 15 2047) ?_
  refine tU 11 (some 17) (tb 15 4095) ?_
  refine tP 12 (some 18) (tb 15 8191) ?_
  refine tP 13 (some 4) (tb 15 16383) ?_
  refine tP 14 (some 5) (tb 15 32767) ?_
  refine done_ (by kernel_rfl) ?_
  all_goals go_wp2
  all_goals go_ret2
  all_goals exact LR.ofR H4.out.1 H4.out.2
end
section
variable {O : Nat → Prop} {W : World} {g : Nat} {G : GV}
theorem Put_any (h : GS O W g G) (r i : Int) (hi : -9223372036854775808 ≤ i ∧ i ≤ 9223372036854775807) (x : CS) (hx : W32 x) :
 Calls Tryz.prog 23 #[.pointer (some ⟨g, 0, none⟩), .int .i64 r, .int .i64 i, cellV x] W fun e w' => e = .returned (.bool (gPut G r i x).2) ∧ Did O W w' g (gPut G r i x).1 := by
 have hb : Below W.heap.size W ((W.alloc (.cells #[.int .i64 i] 3)).alloc (cellB x)) := bE
 have key := turn57 (h.below hb) r (.pointer (some ⟨W.heap.size, 0, none⟩)) (.pointer (some ⟨W.heap.size + 1, 0, none⟩)) (putC (gLn G r) i x) (putOk (gLn G r) i x)
  (fun hr _ => by have := gPut_ok h.ok r i hx; unfold gPut at this; rw [if_pos hr] at this; exact this)
  (fun hr A c hC hc => put1_any hC hc (by have := h.ok.len _ (gLn_mem hr); have := h.ok.c2; omega) i hi x hx _ _ ((blk_cell (blk_alloc (blk_new W (.cells #[.int .i64 i] 3)) _) 0).trans rfl) (blk_new1 _ _ _))
 have HK := aS key
 have HB := aS hb
 clear key hb h hi hx
 go_enter Tryz.func23, Tryz.ntmps23
 go_wp2_with (first | (go_at_call 56; go_must (refine HK.out.mono ?_); rintro e w1 ⟨rfl, hd⟩; have HD := aS (Did.pre HB.out hd); clear hd))
 all_goals go_ret
 refine ⟨?_, ?_⟩
 ·unfold gPut
  by_cases hr : gHas G r = true
  ·rw [if_pos hr, hr, Bool.true_and]; rfl
  ·rw [if_neg hr, Bool.eq_false_iff.2 hr, Bool.false_and]; rfl
 ·have hd := HD.out
  unfold gPut
  by_cases hr : gHas G r = true
  ·rw [if_pos hr]
   by_cases hp : putOk (gLn G r) i x = true
   ·rw [if_pos ⟨hr, hp⟩] at hd; exact hd
   ·rw [if_neg (fun h => hp h.2)] at hd
    show Did O W _ g (gSet G r (putC (gLn G r) i x))
    rw [put_no (Bool.eq_false_iff.2 hp), gSet_self hr]; exact hd
  ·rw [if_neg hr]
   rw [if_neg (fun h => hr h.1)] at hd; exact hd
theorem Mark_any (h : GS O W g G) (r i m : Int) (hm : -2147483648 ≤ m ∧ m ≤ 2147483647) :
 Calls Tryz.prog 32 #[.pointer (some ⟨g, 0, none⟩), .int .i64 r, .int .i64 i, .int .i32 m] W fun e w' => e = .returned (.bool (gMark G r i m).2) ∧ Did O W w' g (gMark G r i m).1 := by
 have hb : Below W.heap.size W ((W.alloc (.cells #[.int .i64 i] 3)).alloc (.cells #[.int .i32 m] 21)) := bE
 have key := turn68 (h.below hb) r (.pointer (some ⟨W.heap.size, 0, none⟩)) (.pointer (some ⟨W.heap.size + 1, 0, none⟩)) (markL (gLn G r) i m) (markOk (gLn G r) i m)
  (fun hr _ => by have := gMark_ok h.ok r i hm; unfold gMark at this; rw [if_pos hr] at this; exact this)
  (fun hr A c hC hc => mark1_any hC hc (by have := h.ok.len _ (gLn_mem hr); have := h.ok.c2; omega) i m _ _ ((blk_cell (blk_alloc (blk_new W (.cells #[.int .i64 i] 3)) _) 0).trans rfl) ((blk_cell (blk_new1 _ _ _) 0).trans rfl))
 have HK := aS key
 have HB := aS hb
 clear key hb h hm
 go_enter Tryz.func32, Tryz.ntmps32
 go_wp2_with (first | (go_at_call 56; go_must (refine HK.out.mono ?_); rintro e w1 ⟨rfl, hd⟩; have HD := aS (Did.pre HB.out hd); clear hd))
 all_goals go_ret
 refine ⟨?_, ?_⟩
 ·unfold gMark
  by_cases hr : gHas G r = true
  ·rw [if_pos hr, hr, Bool.true_and]; rfl
  ·rw [if_neg hr, Bool.eq_false_iff.2 hr, Bool.false_and]; rfl
 ·have hd := HD.out
  unfold gMark
  by_cases hr : gHas G r = true
  ·rw [if_pos hr]
   by_cases hp : markOk (gLn G r) i m = true
   ·rw [if_pos ⟨hr, hp⟩] at hd; exact hd
   ·rw [if_neg (fun h => hp h.2)] at hd
    show Did O W _ g (gSet G r (markL (gLn G r) i m))
    rw [mark_no (Bool.eq_false_iff.2 hp), gSet_self hr]; exact hd
  ·rw [if_neg hr]
   rw [if_neg (fun h => hr h.1)] at hd; exact hd
theorem Erase_any (h : GS O W g G) (r a b p0 p1 p2 : Int) :
 Calls Tryz.prog 33 #[.pointer (some ⟨g, 0, none⟩), .int .i64 r, .int .i64 a, .int .i64 b, penV p0 p1 p2] W fun e w' => e = .returned (.tuple #[]) ∧ Did O W w' g (gErase G r a b p0 p1 p2) := by
 have hb : Below W.heap.size W (((W.alloc (.cells #[.int .i64 a] 3)).alloc (.cells #[.int .i64 b] 3)).alloc (penB p0 p1 p2)) := bE
 have key := turn70 (h.below hb) r (.pointer (some ⟨W.heap.size, 0, none⟩)) (.pointer (some ⟨W.heap.size + 1, 0, none⟩)) (.pointer (some ⟨W.heap.size + 2, 0, none⟩)) (eraseC (gLn G r) a b p0 p1 p2) (penR p0 p1 p2)
  (fun hr hp => by have := gErase_ok h.ok r a b p0 p1 p2; unfold gErase at this; rw [if_pos ⟨hr, hp⟩] at this; exact this)
  (fun hr A c hC hc => erase1_any hC hc (by have := h.ok.len _ (gLn_mem hr); have := h.ok.c2; omega) a b p0 p1 p2 _ _ _ ((blk_cell (blk_alloc (blk_alloc (blk_new W (.cells #[.int .i64 a] 3)) _) _) 0).trans rfl) ((blk_cell (blk_alloc (blk_new1 W (.cells #[.int .i64 a] 3) (.cells #[.int .i64 b] 3)) _) 0).trans rfl) (blk_new2 _ _ _ _))
 have HK := aS key
 have HB := aS hb
 clear key hb h
 go_enter Tryz.func33, Tryz.ntmps33
 go_wp2_with (first | (go_at_call 56; go_must (refine HK.out.mono ?_); rintro e w1 ⟨rfl, hd⟩; have HD := aS (Did.pre HB.out hd); clear hd))
 all_goals go_end0
 exact ⟨rfl, HD.out⟩
theorem Lay_any (h : GS O W g G) (r : Int) {A : Option Addr} {c : Nat} {l : List CS} (hC : Kd.C kCl W A l.length l) (hc : l.length ≤ c) (hl : l.length ≤ 1000) (h8 : ∀ x ∈ l, W32 x) :
 Calls Tryz.prog 38 #[.pointer (some ⟨g, 0, none⟩), .int .i64 r, .slice A l.length c] W fun e w' => e = .returned (.bool (gLay G r l).2) ∧ Did O W w' g (gLay G r l).1 := by
 have hb : Below W.heap.size W ((W.alloc (.cells #[.pointer (some ⟨g, 0, none⟩)] 24)).alloc (.cells #[.slice A l.length c] 41)) := bE
 have key := turn73 (h.below hb) r (.pointer (some ⟨W.heap.size + 1, 0, none⟩)) (.pointer (some ⟨W.heap.size, 0, none⟩)) l (decide (l.length = G.cols ∧ rightL l = true))
  (fun hr hp => by have := gLay_ok h.ok r h8; unfold gLay at this; rw [if_pos ⟨hr, of_decide_eq_true hp⟩] at this; exact this)
  (fun hr A1 c1 hC1 hc1 => lay1_any (h.below hb) (Kd.C_below hC hb) hc hl h8 _ _ ((blk_cell (blk_new1 W (.cells #[.pointer (some ⟨g, 0, none⟩)] 24) (.cells #[.slice A l.length c] 41)) 0).trans rfl) ((blk_cell (blk_alloc (blk_new W (.cells #[.pointer (some ⟨g, 0, none⟩)] 24)) _) 0).trans rfl))
 obtain ⟨q, hq⟩ : ∃ q, decide (l.length = G.cols ∧ rightL l = true) = q := ⟨_, rfl⟩
 rw [hq] at key
 have HK := aS key
 have HQ := aS hq
 have HB := aS hb
 clear key hb h hC hc hl h8 hq
 go_enter Tryz.func38, Tryz.ntmps38
 go_wp2_with (first | (go_at_call 56; go_must (refine HK.out.mono ?_); rintro e w1 ⟨rfl, hd⟩; have HD := aS (Did.pre HB.out hd); clear hd))
 all_goals go_ret
 have hd := HD.out
 unfold gLay
 by_cases hr : gHas G r = true
 ·by_cases hp : l.length = G.cols ∧ rightL l = true
  ·have hq : q = true := by rw [← HQ.out]; exact decide_eq_true hp
   rw [if_pos ⟨hr, hq⟩] at hd
   rw [if_pos ⟨hr, hp⟩, hr, hq]
   exact ⟨rfl, hd⟩
  ·have hq : q = false := by rw [← HQ.out]; exact decide_eq_false hp
   subst hq
   rw [if_neg (fun h => by cases h.2)] at hd
   rw [if_neg (fun h => hp h.2), Bool.and_false]
   exact ⟨rfl, hd⟩
 ·rw [if_neg (fun h => hr h.1)] at hd
  rw [if_neg (fun h => hr h.1), Bool.eq_false_iff.2 hr, Bool.false_and]
  exact ⟨rfl, hd⟩
end
end Go.Proofs.YtblcmcdifgclcaaGreat.Grd
