/- GridPlays: what its proof leads to. No condition. -/
import Derived.Test.YtblcmcdifgclcaaGreatG6qGridPlays
import Derived.Test.YtblcmcdifgclcaaGreatG23qGridPlays
import Derived.Test.YtblcmcdifgclcaaGreatG24qGridPlays
import Derived.Test.YtblcmcdifgclcaaGreatG35qGridPlays
import Derived.Test.YtblcmcdifgclcaaGreatG36qGridPlays
import Derived.Test.YtblcmcdifgclcaaGreatG37qGridPlays
import Derived.Test.YtblcmcdifgclcaaGreatG38qGridPlays
import Derived.Test.YtblcmcdifgclcaaGreatG39qGridPlays
import Derived.Test.YtblcmcdifgclcaaGreatG46qGridPlays
namespace Go.Proofs.YtblcmcdifgclcaaGreat.Grd
open Go.RowKit Go.Proofs.YtblcmcdifgclcaaGreat Go.Proofs.YtblcmcdifgclcaaGreat.PGridPlays Go.Proofs.YtblcmcdifgclcaaGreatW.PrintWords Go.Proofs.YtblcmcdifgclcaaGreatW.PrintLast Go.Proofs.YtblcmcdifgclcaaGreatW.PrintMore
set_option linter.unusedVariables false
set_option linter.unusedSimpArgs false
set_option maxRecDepth 100000
set_option maxHeartbeats 4000000
attribute [local go_sem] isSome_setCell max2_int min2_int max_two min_two
section
variable {P : Program} {ops : Array Oper} {rest : List Oper} {o : Oper} {a : Act} {Q : Exit → Act → World → Prop}
theorem step_field {W : World} {g i : Nat} {t T : TypeId} {cs : Array Value} (p x : Operand) (u : Value) (hN : o.dst = none) (hgd : o.guard = none) (ho : o.op = .store t p x) (haddr : a.eval p = .pointer (some ⟨g, i, none⟩)) (hx : a.eval x = u) (hb : W.heap[g]? = some (.cells cs T (0, 0))) (hi : i < cs.size) (hc : u.cells.toList = [u]) (ht : (P.info? t).map (·.size) = some 1) (hu : u.oneCell' = true)
 (h : ∀ W1, W1.heap[g]? = some (.cells (cs.setIfInBounds i u) T (0, 0)) → W.grownBy W1 (some g) → wpList P ops Q rest a W1) : wpList P ops Q (o :: rest) a W := by
 refine wpList_plain hgd fun K hK => ?_
 have hrun := run_store_run (P := P) (o := i) t u [u] hb hc ht (by show i + 1 ≤ cs.size; omega) (fun q hq => by rw [List.mem_singleton.1 hq]; exact hu)
 obtain ⟨s1, s2, s3, s4⟩ := setCells_same g [u] i W
 unfold Oper.wp execOp
 simp only [ho, haddr, hx, Sem.run_bind, Sem.run_pure, Result.andThen_ok, hrun]
 show K (a.put o.dst undef) _
 rw [hN]
 exact hK a _ (h _ (blk_set hb i u) ⟨s1, s2, s3, by rw [s4]; exact Nat.le_refl _, fun k _ hk => setCells_far _ _ k (fun he => hk (by rw [he]))⟩)
end
structure RB (w W : World) (b g : Nat) (v : Value) (L : List (List RC)) : Prop where
 hb : Below w.heap.size w W
 ge : w.heap.size ≤ b ∧ b < g
 bx : W.heap[g]? = some (.cells #[v, .int .i64 0, .int .i64 0] 32 (0, 0))
 b2 : W.heap[b]? = some gZ
 rows : Kd.N kRL tRL W (g + 1) (fun k => g < k) v L
section
variable {w W W1 W2 : World} {b g : Nat} {v v1 : Value} {L : List (List RC)}
theorem RB.below (h : RB w W b g v L) (hb : Below W.heap.size W W1) : RB w W1 b g v L :=
 ⟨below_then h.hb h.hb.size hb, h.ge, blk_below h.bx hb, blk_below h.b2 hb, Kd.N_below h.rows hb⟩
theorem RB.lt (h : RB w W b g v L) : g < W.heap.size := blk_lt h.bx
theorem RB.cell (h : RB w W b g v L) : W.cell? ⟨g, 0, none⟩ = some v ∧ W.frozen? ⟨g, 0, none⟩ = false := ⟨(blk_cell h.bx 0).trans rfl, blk_frozen h.bx 0⟩
theorem RB.noown (h : RB w W b g v L) : some g ≠ v.ownBlock := fun e => by have := h.rows.1 g e.symm; omega
theorem RB.noown2 (h : RB w W b g v L) : some b ≠ v.ownBlock := fun e => by have := h.rows.1 b e.symm; have := h.ge; omega
theorem RB.new (h1 : Below w.heap.size w W) (x1 : W.heap[b]? = some gZ) (hb : w.heap.size ≤ b) (hx : W1.heap[g]? = some gZ) (hg : g = W.heap.size) (h2 : Below W.heap.size W W1) : RB w W1 b g (.slice none 0 0) [] :=
 ⟨below_then h1 h1.size h2, ⟨hb, by have := blk_lt x1; omega⟩, hx, blk_below x1 h2, Kd.N_nil _ _ _ _ _⟩
theorem RB.more (h : RB w W b g v L) {L1 : List (List RC)} (hN : Kd.N kRL tRL W1 (g + 1) (fun k => g < k) v1 L1) (hg : W.grownBy W1 v.ownBlock) :
 W1.cell? ⟨g, 0, none⟩ = some v ∧ W1.frozen? ⟨g, 0, none⟩ = false ∧ RB w (W1.setCell ⟨g, 0, none⟩ v1) b g v1 L1 := by
 have hx := blk_grown h.bx hg h.noown
 have hx2 := blk_grown h.b2 hg h.noown2
 refine ⟨(blk_cell hx 0).trans rfl, blk_frozen hx 0, (h.hb.grown hg h.hb.size (fun k hk => by have := h.rows.1 k hk; have := h.ge; omega)).setCell (by have := h.ge; show w.heap.size ≤ g; omega) _, h.ge, by simpa using blk_set hx 0 v1, ?_, Kd.N_far hN (fun k hk => Nat.ne_of_gt hk) _⟩
 exact blk_far hx2 (by have := h.ge; show b ≠ g; omega) _
end
theorem gLn_get {G : GV} {i : Nat} {l : List CS} (h : G.L[i]? = some l) : (if gHas G (i : Int) = true then gLn G (i : Int) else []) = l := by
 have hi := (List.getElem?_eq_some_iff.1 h).1
 have hh : gHas G (i : Int) = true := by unfold gHas; simp; omega
 rw [if_pos hh]
 unfold gLn
 rw [Int.toNat_natCast, List.getD_eq_getElem?_getD, h]; rfl
theorem Of_any {O : Nat → Prop} {w : World} {g : Nat} {G : GV} (h : GS O w g G) : Calls Tryz.prog 46 #[.pointer (some ⟨g, 0, none⟩)] w fun e w' => ∃ b cap N, e = .returned (gV (.slice (some ⟨b, 0, none⟩) N cap) G) ∧ N = G.L.length ∧ RGL w' (fun k => w.heap.size ≤ k ∧ k < w'.heap.size) (.slice (some ⟨b, 0, none⟩) N cap) (toL G.L) ∧ Below w.heap.size w w' := by
 have HS := aS h
 have HR2 := aS h.ok.r2
 clear h
 obtain ⟨n, hn⟩ : ∃ n, G.L.length = n := ⟨_, rfl⟩
 have HN := aS hn
 rw [hn]
 clear hn
 go_enter Tryz.func46, Tryz.ntmps46
 go_wp2_with (first | (refine bx 2 #[.slice none 0 0, .int .i64 0, .int .i64 0] 32 ?_; intro b2 hg_ w1 hx_ hb_; have H1 := aS (And.intro hx_ (And.intro hg_ hb_)); clear hg_ hx_ hb_) | (refine bx 3 #[.slice none 0 0, .int .i64 0, .int .i64 0] 32 ?_; intro b3 hg_ w2 hx_ hb_; have HB0 := aS (RB.new H1.out.2.2 H1.out.1 (Nat.le_of_eq H1.out.2.1.symm) hx_ hg_ hb_); clear hg_ hx_ hb_ H1))
 go_loopg [4] (n + 1) (fun kq v4 w' => ∃ (i : Nat) (v : Value), v4 = .int .i64 i ∧ Aside0 (kq = n - i + 1 ∧ i ≤ n) ∧ Aside0 (RB w w' b2 b3 v (toL (G.L.take i))))
 case atStart => exact ⟨0, _, by go_num, ⟨by omega, by omega⟩, HB0⟩
 case round =>
  obtain ⟨i, v, rfl, HK, HB⟩ := hrel
  by_cases hi : i < n
  ·have hT : decide ((i : Int) < (n : Int)) = true := decide_eq_true (by omega)
   have hT' : decide (i < n) = true := decide_eq_true hi
   have hw1 : wrap64 ((i : Int) + 1) = ((i + 1 : Nat) : Int) := by rw [w64 (by omega) (by have := HR2.out; have := HN.out; omega)]; omega
   have HI := aS hi
   have hc2 := HB.out.cell.1
   obtain ⟨l, hl⟩ : ∃ l, G.L[i]? = some l := ⟨_, List.getElem?_eq_getElem (by have := HN.out; omega)⟩
   have HLL := aS hl
   have HL8 := aS (show l.length ≤ 1000 ∧ ∀ x ∈ l, W32 x from ⟨by have := HS.out.ok.len l (List.mem_of_getElem? hl); have := HS.out.ok.c2; omega, HS.out.ok.w32 l (List.mem_of_getElem? hl)⟩)
   clear hl hi
   go_wp2_with (first | (go_at_call 26; go_must (with_reducible refine (Rows_any (HS.out.below HB.out.hb)).mono ?_); rintro e w' ⟨rfl, rfl⟩; rw [HN.out]))
   refine start_ (n := 10) (S := fun w' => w'.cell? ⟨b3, 0, none⟩ = some v) (ds := [7, 9]) (tb 10 0) (by kernel_rfl) rfl rfl (hc2) (fun hHeld => ?_)
   refine tP 0 (some 11) (tb 10 1) ?_
   refine tP 2 (some 13) (tb 10 5) ?_
   refine tP 3 (some 14) (tb 10 13) ?_
   refine take_ (i := 1) (N := some 12) (v := ?_) (a' := ?_) (tb 10 15) rfl rfl (by kernel_rfl) (fun _ _ _ h => h) (Or.inl ⟨by rfl, ?_⟩) hHeld ?_ ?_
   rotate_left
   ·intro w' s0
    go_simp
    with_reducible rfl
   rotate_left
   ·simp only [Act.put, List.setIfInBounds_toArray, List.set_cons_zero, List.set_cons_succ, i64_w, i32_w]
    rfl
   refine sO 4 (some 15) (tb 10 31) (fun K hK => ?_)
   refine gO Tryz.func16 #[.pointer (some ⟨g, 0, none⟩), .int .i64 i] ?_
   with_reducible refine (Line_any ((HS.out.below HB.out.hb).below bE) (i : Int)).mono ?_
   rintro e w6 ⟨v6, rfl, hR, hb⟩
   refine ⟨_, rfl, ?_⟩
   rw [gLn_get HLL.out] at hR
   obtain ⟨A6, c6, rfl, hc6, hC6⟩ := Kd.R_reads hR
   have H6 := aS (And.intro (HB.out.below (below_step bE hb)) (And.intro hC6 hc6))
   clear hR hb hc6 hC6
   refine hK.out _ _ (H6.out.1.cell.1) (fun hHeld => ?_)
   clear hK K
   refine nm ?_
   refine sO 5 (some 16) (tb 10 63) (fun K hK => ?_)
   refine gO Tryz.func37 #[.slice A6 l.length c6] ?_
   with_reducible refine (of_any (Kd.C_below H6.out.2.1 bE) H6.out.2.2 HL8.out.2 HL8.out.1).mono ?_
   rintro e w7 ⟨A7, c7, rfl, hc7, hF7, hb⟩
   refine ⟨_, rfl, ?_⟩
   have H7 := aS (And.intro (H6.out.1.below (below_step bE hb)) (And.intro hc7 hF7))
   clear hb hc7 hF7
   refine hK.out _ _ (H7.out.1.cell.1) (fun hHeld => ?_)
   clear hK K
   refine nm ?_
   refine sO 6 (some 17) (tb 10 127) (fun K hK => ?_)
   refine value_ (w1 := ?_) (v := ?_) (by rfl) rfl ?_ ?_
   rotate_left 2
   ·go_simp
    constructor
    ·rfl
    ·rfl
   refine hK.out _ _ ((H7.out.1.below bE).cell.1) (fun hHeld => ?_)
   clear hK K
   refine nm ?_
   refine last_ (i := 7) (N := some 18) (tb 10 255) rfl rfl (by kernel_rfl) (by decide) (fun K hK => ?_)
   have HFK := aS (show Kd.FK kRL w7 (fun k => w6.heap.size ≤ k) (l.map toR) [.slice A7 l.length c7] from by have h := Kd.FK_slice_mk (e := 52) (d := kRC) (W := w7) (ok := fun k => w6.heap.size ≤ k) (l := l.map toR) (A := A7) (c := c7) (by rw [List.length_map]; exact H7.out.2.1) (by rw [List.length_map]; exact H7.out.2.2); rwa [List.length_map] at h)
   refine Kd.N_append_step kRL (w0 := w7) (b3 + 1) (by rfl) (.tmp 12) (.tmp 17) 30 72 (.slice none 0 0) 24 (by rfl) Tryz.underlying30 infoRL rfl (by decide) (by omega) v (toL (G.L.take i)) (l.map toR) [.slice A7 l.length c7] (fun k => b3 < k) (fun k => w6.heap.size ≤ k) (by rfl) (by rfl) (Kd.FK_below HFK.out bE) ?hokp ?hfresh (Kd.N_below H7.out.1.rows bE) bE ?hsz ?hlen ?_
   case hokp => intro k hk; exact ⟨Nat.lt_of_lt_of_le H6.out.1.lt hk, fun e => by have := Kd.N_lt H6.out.1.rows k e.symm; omega⟩
   case hfresh => intro k hk; exact Nat.lt_of_lt_of_le H7.out.1.lt hk
   case hsz => exact H7.out.1.lt
   case hlen => have := HR2.out; have := HN.out; have := HI.out; rw [toL_len, List.length_take]; omega
   intro v8 w8 ho hb hg8 hat
   rw [← toL_more HLL.out] at ho
   obtain ⟨A8, c8, e8⟩ := Kd.N_slice ho
   generalize (toL (G.L.take (i + 1))).length = n8 at e8
   subst e8
   have H8 := aS (H7.out.1.more ho hg8)
   have hc8 := H8.out.1
   have hz8 := H8.out.2.1
   clear ho hb hg8 hat
   refine hK.out _ _ ?_
   clear hK K
   refine nm ?_
   refine tP 8 (some 19) (tb 10 511) ?_
   refine last_ (i := 9) (N := none) (tb 10 1023) rfl rfl (by kernel_rfl) (by decide) (fun K hK => ?_)
   refine skip_ (w1 := ?_) (by rfl) rfl ?_ ?_
   rotate_left
   ·go_simp
    rfl
   refine hK.out _ _ ?_
   clear hK K
   refine done_ (by kernel_rfl) ?_
   all_goals go_wp2
   all_goals go_roundg (n - (i + 1) + 1)
   all_goals first | (case measure => have := HK.out; have := HI.out; omega) | (case rel => exact ⟨i + 1, _, by go_num, ⟨rfl, by have := HI.out; omega⟩, ⟨H8.out.2.2⟩⟩)
  ·have hT : decide ((i : Int) < (n : Int)) = false := decide_eq_false (by omega)
   have hT' : decide (i < n) = false := decide_eq_false hi
   obtain rfl : i = n := by have := HK.out; omega
   clear hi
   have hE : RB w wr b2 b3 v (toL G.L) := by have h := HB.out; rwa [← HN.out, List.take_length] at h
   have hG := RGL.ofN (by rw [toL_len]; exact HS.out.ok.r1) (Kd.N_bound hE.rows)
   obtain ⟨b, cap, e0, -, -, -, -⟩ := id hG
   obtain ⟨N, hN⟩ : ∃ N, (toL G.L).length = N := ⟨_, rfl⟩
   rw [hN] at e0
   subst e0
   have HE := aS hE
   have HG := aS hG
   have HNN := aS hN
   clear hE hG hN HB HB0
   go_wp2_with (first | (go_at_call 26; go_must (with_reducible refine (Rows_any (HS.out.below HE.out.hb)).mono ?_); rintro e w' ⟨rfl, rfl⟩; rw [HN.out]) | (go_at_call 79; go_must (with_reducible refine (Row_any (HS.out.below HE.out.hb)).mono ?_); rintro e w' ⟨rfl, rfl⟩) | (go_at_call 80; go_must (with_reducible refine (Col_any (HS.out.below HE.out.hb)).mono ?_); rintro e w' ⟨rfl, rfl⟩) | ((with_reducible refine gate_store (t := 3) (p := 24) rfl ?_); go_must (refine step_field (.tmp 24) (.tmp 21) (.int .i64 G.row) rfl rfl rfl rfl rfl HE.out.bx (by simp) rfl (by kernel_rfl) rfl ?_); intro wa hx_ hg_; have Ea := aS (And.intro (show wa.heap[b3]? = some (.cells #[.slice (some ⟨b, 0, none⟩) N cap, .int .i64 G.row, .int .i64 0] 32 (0, 0)) from hx_) hg_); clear hx_ hg_) | ((with_reducible refine gate_store (t := 3) (p := 25) rfl ?_); go_must (refine step_field (.tmp 25) (.tmp 23) (.int .i64 G.col) rfl rfl rfl rfl rfl Ea.out.1 (by simp) rfl (by kernel_rfl) rfl ?_); intro wb hx_ hg_; have Eb := aS (And.intro (show wb.heap[b3]? = some (gB (.slice (some ⟨b, 0, none⟩) N cap) G) from hx_) hg_); clear hx_ hg_; obtain ⟨y0, y1, y2⟩ := gcells Eb.out.1) | ((with_reducible refine gate_store (t := 32) (p := 2) rfl ?_); go_must (refine step_whole (.tmp 2) (.tmp 26) rfl rfl rfl rfl rfl (show wb.heap[b2]? = some gZ from blk_grown (blk_grown HE.out.b2 Ea.out.2 (fun e => by injection e with e; have := HE.out.ge; omega)) Eb.out.2 (fun e => by injection e with e; have := HE.out.ge; omega)) rfl (by kernel_rfl) (by simp [Value.oneCell']; done) ?_); intro wc hx_ hg_; have Ec := aS (And.intro (show wc.heap[b2]? = some (gB (.slice (some ⟨b, 0, none⟩) N cap) G) from hx_) hg_); clear hx_ hg_))
   refine bodyPost_ret (results_cell_row rfl _ _ b2 32 _ (0, 0) _ rfl Ec.out.1 Tryz.underlying32 rfl (by kernel_rfl)) rfl ?_
   have e1 := Ea.out.2.size
   have e2 := Eb.out.2.size
   have e3 := Ec.out.2.size
   have hge := HE.out.ge
   have hlt := HE.out.lt
   have hsz := HE.out.hb.size
   have B1 := HE.out.hb.grown Ea.out.2 hsz (fun k hk => by injection hk with hk; omega)
   have B2 := B1.grown Eb.out.2 B1.size (fun k hk => by injection hk with hk; omega)
   have B3 := B2.grown Ec.out.2 B2.size (fun k hk => by injection hk with hk; omega)
   refine ⟨b, cap, N, rfl, by rw [← HNN.out, toL_len, HN.out], ?_, B3⟩
   refine (HG.out.step (fun k hk h2 => ?_)).mono (fun k hk => ⟨by omega, by omega⟩)
   rw [Ec.out.2.block k (by omega) (fun e => by injection e with e; omega), Eb.out.2.block k (by omega) (fun e => by injection e with e; omega), Ea.out.2.block k h2 (fun e => by injection e with e; omega)]
end Go.Proofs.YtblcmcdifgclcaaGreat.Grd
namespace Go.Proofs.YtblcmcdifgclcaaGreat.Grd
open Go.ChangeShapes Go.WideShapes Go.RowKit Go.Proofs.YtblcmcdifgclcaaGreat Go.Proofs.YtblcmcdifgclcaaGreat.PGridPlays Go.Proofs.YtblcmcdifgclcaaGreatW.PrintWords Go.Proofs.YtblcmcdifgclcaaGreatW.PrintLast Go.Proofs.YtblcmcdifgclcaaGreatW.PrintMore
set_option linter.unusedVariables false
set_option linter.unusedSimpArgs false
set_option maxRecDepth 100000
set_option maxHeartbeats 4000000
attribute [local go_sem] isSome_setCell max2_int min2_int max_two min_two
theorem rSame_self (G : GV) : rSameV G G = true := by unfold rSameV; simp
section
variable {P : Program} {ops : Array Oper} {rest : List Oper} {o : Oper} {a : Act} {Q : Exit → Act → World → Prop}
end
theorem Same7_any {O : Nat → Prop} {w : World} {g : Nat} {G : GV} (h : GS O w g G) {ok : Nat → Prop} {A : Option Addr} {N c : Nat} (hR : RD kRL w ok (.slice A N c) (toL G.L)) : Calls Tryz.prog 10 #[.pointer (some ⟨g, 0, none⟩), gV (.slice A N c) G] w fun e w' => e = .returned (.bool true) ∧ Below w.heap.size w w' := by
 have HS := aS h
 have HR := aS hR
 have HN := aS (show N = G.L.length from by obtain ⟨A', c', he, -, -⟩ := hR; injection he with e1 e2 e3; rw [e2, toL_len])
 clear h hR
 go_enter Tryz.func10, Tryz.ntmps10
 go_wp2_with (first | (refine bx 3 #[.slice A N c, .int .i64 G.row, .int .i64 G.col] 32 ?_; intro b3 hg_ w1 hx_ hb_; have E1 := aS (And.intro hx_ hb_); obtain ⟨y0, y1, y2⟩ := gcells (v := .slice A N c) (G := G) hx_; clear hg_ hx_ hb_))
 refine start_ (n := 20) (S := fun w' => w'.cell? ⟨b3, 0, none⟩ = some (.slice A N c) ∧ w'.cell? ⟨b3, 1, none⟩ = some (.int .i64 G.row) ∧ w'.cell? ⟨b3, 2, none⟩ = some (.int .i64 G.col)) (ds := [17]) (tb 20 0) (by kernel_rfl) rfl rfl ⟨y0, y1, y2⟩ (fun hHeld => ?_)
 refine tP 0 (some 5) (tb 20 1) ?_
 refine tP 2 (some 7) (tb 20 5) ?_
 refine tK 3 (some 8) (tb 20 13) ?_
 refine tP 4 (some 9) (tb 20 29) ?_
 refine sO 1 (some 6) (tb 20 31) (fun K hK => ?_)
 refine gO Tryz.func26 #[.pointer (some ⟨g, 0, none⟩)] ?_
 with_reducible refine (Rows_any (HS.out.below (below_step E1.out.2 bE))).mono ?_
 rintro e wz2 ⟨rfl, hw⟩
 refine ⟨_, rfl, ?_⟩
 rw [← HN.out]
 have T2 := aS (show Below w1.heap.size w1 wz2 by rw [hw]; exact bE)
 clear hw
 obtain ⟨y0, y1, y2⟩ := gcells (v := .slice A N c) (G := G) (blk_below E1.out.1 T2.out)
 refine hK.out _ _ ⟨y0, y1, y2⟩ (fun hHeld => ?_)
 clear hK K
 refine nm ?_
 refine tP 5 (some 10) (tb 20 63) ?_
 refine tP 6 (some 11) (tb 20 127) ?_
 refine tP 7 (some 12) (tb 20 255) ?_
 refine tK 9 (some 14) (tb 20 767) ?_
 refine sO 8 (some 13) (tb 20 1023) (fun K hK => ?_)
 refine gO Tryz.func27 #[.pointer (some ⟨g, 0, none⟩)] ?_
 with_reducible refine (Cols_any (HS.out.below (below_step E1.out.2 (below_step T2.out bE)))).mono ?_
 rintro e wz3 ⟨rfl, hw⟩
 refine ⟨_, rfl, ?_⟩
 have T3 := aS (show Below w1.heap.size w1 wz3 by rw [hw]; exact below_step T2.out bE)
 clear hw
 obtain ⟨y0, y1, y2⟩ := gcells (v := .slice A N c) (G := G) (blk_below E1.out.1 T3.out)
 refine hK.out _ _ ⟨y0, y1, y2⟩ (fun hHeld => ?_)
 clear hK K
 refine nm ?_
 refine sO 10 (some 15) (tb 20 2047) (fun K hK => ?_)
 refine gO Tryz.func19 #[gV (.slice A N c) G] ?_
 with_reducible refine (rCols_any (HR.out.below (below_step E1.out.2 (below_step T3.out bE))) HS.out.ok).mono ?_
 rintro e wz4 ⟨rfl, hb⟩
 refine ⟨_, rfl, ?_⟩
 have T4 := aS (show Below w1.heap.size w1 wz4 from below_step (below_step T3.out bE) hb)
 clear hb
 obtain ⟨y0, y1, y2⟩ := gcells (v := .slice A N c) (G := G) (blk_below E1.out.1 T4.out)
 refine hK.out _ _ ⟨y0, y1, y2⟩ (fun hHeld => ?_)
 clear hK K
 refine nm ?_
 refine tP 11 (some 16) (tb 20 4095) ?_
 refine tP 12 (some 17) (tb 20 8191) ?_
 refine tP 13 (some 18) (tb 20 16383) ?_
 refine tP 14 (some 19) (tb 20 32767) ?_
 refine tK 16 (some 21) (tb 20 98303) ?_
 refine sO 15 (some 20) (tb 20 131071) (fun K hK => ?_)
 refine gO Tryz.func46 #[.pointer (some ⟨g, 0, none⟩)] ?_
 with_reducible refine (Of_any (HS.out.below (below_step E1.out.2 (below_step T4.out bE)))).mono ?_
 rintro e wz5 ⟨b9, cap9, N9, rfl, hN9, hG9, hb⟩
 refine ⟨_, rfl, ?_⟩
 have T5 := aS (show Below w1.heap.size w1 wz5 from below_step (below_step T4.out bE) hb)
 have E9 := aS (hG9.rd (by rw [toL_len]; exact HS.out.ok.r2))
 clear hb hG9 hN9
 obtain ⟨y0, y1, y2⟩ := gcells (v := .slice A N c) (G := G) (blk_below E1.out.1 T5.out)
 refine hK.out _ _ ⟨y0, y1, y2⟩ (fun hHeld => ?_)
 clear hK K
 refine nm ?_
 refine last_ (i := 17) (N := some 22) (tb 20 262143) rfl rfl (by kernel_rfl) (by decide) (fun K hK => ?_)
 refine gO Tryz.func45 #[gV (.slice (some ⟨b9, 0, none⟩) N9 cap9) G, gV (.slice A N c) G] ?_
 with_reducible refine (rgSame_any HS.out.ok (E9.out.below bE) (HR.out.below (below_step E1.out.2 (below_step T5.out bE)))).mono ?_
 rintro e wz6 ⟨rfl, hb⟩
 refine ⟨_, rfl, ?_⟩
 rw [rSame_self]
 have T6 := aS (show Below w1.heap.size w1 wz6 from below_step (below_step T5.out bE) hb)
 clear hb
 refine hK.out _ _ ?_
 clear hK K
 refine nm ?_
 refine tP 18 (some 23) (tb 20 524287) ?_
 refine tP 19 (some 4) (tb 20 1048575) ?_
 refine done_ (by kernel_rfl) ?_
 all_goals go_wp2
 all_goals go_ret
 all_goals exact ⟨by simp, below_step E1.out.2 (below_step T6.out bE)⟩
end Go.Proofs.YtblcmcdifgclcaaGreat.Grd
