/- GridNil: what its proof leads to. No condition. -/
import Derived.Test.YtblcmcdifgclcaaGrBqGridNil
namespace Go.Proofs.Ytblcmcdifgclcaa.Grd
open Go.RowKit Go.Proofs.Ytblcmcdifgclcaa Go.Proofs.Ytblcmcdifgclcaa.PGridSame Go.Proofs.YtblcmcdifgclcaaW.PrintWords Go.Proofs.YtblcmcdifgclcaaW.PrintLast Go.Proofs.YtblcmcdifgclcaaW.PrintMore
set_option linter.unusedVariables false
set_option linter.unusedSimpArgs false
set_option maxRecDepth 100000
set_option maxHeartbeats 4000000
attribute [local go_sem] max2_int min2_int max_two min_two
abbrev cellV (x : CS) : Value := .agg #[.int .i32 x.f0, .int .i32 x.f1.f0, .int .i32 x.f1.f1, .int .u8 x.f2, .int .u8 x.f3.f0, .int .u8 x.f3.f1, .int .u8 x.f3.f2]
abbrev cellB (x : CS) : Obj := .cells #[.int .i32 x.f0, .int .i32 x.f1.f0, .int .i32 x.f1.f1, .int .u8 x.f2, .int .u8 x.f3.f0, .int .u8 x.f3.f1, .int .u8 x.f3.f2] 26 (0, 0)
abbrev penV (p0 p1 p2 : Int) : Value := .agg #[.int .u8 p0, .int .u8 p1, .int .u8 p2]
abbrev penB (p0 p1 p2 : Int) : Obj := .cells #[.int .u8 p0, .int .u8 p1, .int .u8 p2] 24 (0, 0)
theorem size_al (W : World) (o : Obj) : (W.alloc o).heap.size = W.heap.size + 1 := by show (W.heap.push o).size = _; exact Array.size_push ..
theorem blk_new1 (W : World) (o1 o2 : Obj) : ((W.alloc o1).alloc o2).heap[W.heap.size + 1]? = some o2 := by have := blk_new (W.alloc o1) o2; rwa [size_al] at this
theorem Did.pre {O : Nat → Prop} {W W1 W2 : World} {g : Nat} {G : GV} (hb : Below W.heap.size W W1) (h : Did O W1 W2 g G) : Did O W W2 g G := by
  obtain ⟨O', h1, h2, h3⟩ := h
  exact ⟨O', h1, fun k hk => (h2 k hk).imp id (fun h => Nat.le_trans hb.size h), (Wr.of_below hb O).trans h3 (fun k hk => .inl hk)⟩
theorem gSet_self {G : GV} {r : Int} (h : gHas G r = true) : gSet G r (gLn G r) = G := by
  obtain ⟨n, rfl, hn, hg⟩ := has_row h
  unfold gSet
  rw [Int.toNat_natCast]
  have : G.L.set n (gLn G (n : Int)) = G.L := by
    refine List.ext_getElem? fun j => ?_
    rw [List.getElem?_set]
    split
    · rename_i hj; subst hj; rw [hg]
    · rfl
  rw [this]
theorem pR_ok (a b c : Int) : pen_Right.f a b c = some (penR a b c) := by
  unfold pen_Right.f penR
  by_cases h1 : a < 32 <;> by_cases h2 : b < 17 <;> simp [h1, h2]
section
variable {W : World} {A : Option Addr} {c : Nat} {l : List CS}
theorem put1_any (hC : Kd.C kCl W A l.length l) (hc : l.length ≤ c) (hl : l.length ≤ 1000) (i : Int) (hi : -9223372036854775808 ≤ i ∧ i ≤ 9223372036854775807) (x : CS) (hx : W32 x) (g1 g2 : Nat) (h1 : W.cell? ⟨g1, 0, none⟩ = some (.int .i64 i)) (h2 : W.heap[g2]? = some (cellB x)) :
    Calls Try.prog 107 #[.slice A l.length c, .pointer (some ⟨g1, 0, none⟩), .pointer (some ⟨g2, 0, none⟩)] W (LR W (putC l i x) (putOk l i x)) := by
  have c0 := (blk_cell h2 0).trans rfl
  have c1 := (blk_cell h2 1).trans rfl
  have c2 := (blk_cell h2 2).trans rfl
  have c3 := (blk_cell h2 3).trans rfl
  have c4 := (blk_cell h2 4).trans rfl
  have c5 := (blk_cell h2 5).trans rfl
  have c6 := (blk_cell h2 6).trans rfl
  have HC := Aside0.mk (And.intro hC (And.intro hc (Put_ok l i x hi hx.2.2.2 (by omega) 10 (by omega))))
  clear hC hc hl h2
  go_enter Try.func107, Try.ntmps107
  go_wp2_with (first | (go_at_call 37; refine (line_Put.calls 10 A c l i _ _ _ _ _ _ _ _ _ _ HC.out.1 HC.out.2.1 HC.out.2.2).mono ?_; rintro e w1 ⟨v, rfl, hR, hb⟩; have HR := Aside0.mk (And.intro hR hb); clear hR hb))
  all_goals go_ret2
  all_goals exact LR.ofR HR.out.1 HR.out.2
end
section
variable {O : Nat → Prop} {W : World} {g : Nat} {G : GV}
theorem Put_any (h : GS O W g G) (r i : Int) (hi : -9223372036854775808 ≤ i ∧ i ≤ 9223372036854775807) (x : CS) (hx : W32 x) :
    Calls Try.prog 70 #[.pointer (some ⟨g, 0, none⟩), .int .i64 r, .int .i64 i, cellV x] W fun e w' => e = .returned (.bool (gPut G r i x).2) ∧ Did O W w' g (gPut G r i x).1 := by
  have hb : Below W.heap.size W ((W.alloc (.cells #[.int .i64 i] 3)).alloc (cellB x)) := (by repeat (first | exact Below.refl _ _ | apply below_alloc | apply pw_below_drewN | apply below_drew1 | (refine Below.setCell ?_ (by simp) _)))
  have key := turn107 (h.below hb) r (.pointer (some ⟨W.heap.size, 0, none⟩)) (.pointer (some ⟨W.heap.size + 1, 0, none⟩)) (putC (gLn G r) i x) (putOk (gLn G r) i x)
    (fun hr _ => by have := gPut_ok h.ok r i hx; unfold gPut at this; rw [if_pos hr] at this; exact this)
    (fun hr A c hC hc => put1_any hC hc (by have := h.ok.len _ (gLn_mem hr); have := h.ok.c2; omega) i hi x hx _ _ ((blk_cell (blk_alloc (blk_new W (.cells #[.int .i64 i] 3)) _) 0).trans rfl) (blk_new1 _ _ _))
  have HK := Aside0.mk key
  have HB := Aside0.mk hb
  clear key hb h hi hx
  go_enter Try.func70, Try.ntmps70
  go_wp2_with (first | (go_at_call 104; go_must (refine HK.out.mono ?_); rintro e w1 ⟨rfl, hd⟩; have HD := Aside0.mk (Did.pre HB.out hd); clear hd))
  all_goals go_ret
  refine ⟨?_, ?_⟩
  · unfold gPut
    by_cases hr : gHas G r = true
    · rw [if_pos hr, hr, Bool.true_and]; rfl
    · rw [if_neg hr, Bool.eq_false_iff.2 hr, Bool.false_and]; rfl
  · have hd := HD.out
    unfold gPut
    by_cases hr : gHas G r = true
    · rw [if_pos hr]
      by_cases hp : putOk (gLn G r) i x = true
      · rw [if_pos ⟨hr, hp⟩] at hd; exact hd
      · rw [if_neg (fun h => hp h.2)] at hd
        show Did O W _ g (gSet G r (putC (gLn G r) i x))
        rw [put_no (Bool.eq_false_iff.2 hp), gSet_self hr]; exact hd
    · rw [if_neg hr]
      rw [if_neg (fun h => hr h.1)] at hd; exact hd
end
end Go.Proofs.Ytblcmcdifgclcaa.Grd
