/- parse.Parser: Flush, Rest, Copy, All, Same; what the law knows. -/
import Derived.Test.YtlllbaieidbcdaaPaG
import Derived.Lib.SlBytesConst
namespace Go.Proofs.Ytlllbaieidbcdaa.Str
open Go.RowKit Go.Proofs.Ytlllbaieidbcdaa Go.Proofs.Ytlllbaieidbcdaa.PParseEvents Go.Proofs.YtlllbaieidbcdaaW.PrintWords Go.Proofs.YtlllbaieidbcdaaW.PrintLast Go.Proofs.YtlllbaieidbcdaaW.PrintMore
set_option linter.unusedVariables false
set_option linter.unusedSimpArgs false
/-- A parser stands at g. -/
structure PW (w W : World) (g : Nat) (p : PP) (nv : Value) : Prop where
  st : StS p.st nv w W g p.h
  rn : Kd.R (Kd.int .i64) 3 W w.heap.size (fun _ => True) nv p.n
section
variable {w W W1 : World} {g : Nat} {nv : Value} {p : PP}
theorem PW.blk (F : PW w W g p nv) : ∃ x0 x1 x2 : Int, W.heap[g]? = some (.cells #[.int .u8 x0, .int .u8 x1, .int .u8 x2, .int .i64 p.h.length, .int .i64 p.st, nv] 28 (0, 0)) ∧ p.h = [x0, x1, x2].take p.h.length := F.st.hx
theorem PW.below (F : PW w W g p nv) (hb : Below W.heap.size W W1) : PW w W1 g p nv := by
  obtain ⟨x0, x1, x2, hx, hh⟩ := F.blk
  exact ⟨⟨below_then F.st.hb F.st.hb.size hb, F.st.ge, F.st.l3, x0, x1, x2, blk_below hx hb, hh⟩, Kd.R_below F.rn hb⟩
theorem PW.grown (F : PW w W g p nv) (hG : W.grownBy W1 (some g)) {q : PP} (hq : q.n = p.n) (hS : StS q.st nv w W1 g q.h) : PW w W1 g q nv := by
  obtain ⟨x0, x1, x2, hx, -⟩ := F.blk
  refine ⟨hS, ?_⟩
  rw [hq]
  exact Kd.R_mono (Kd.R_grown (Kd.R_types F.rn hx (by decide)) hG (fun k hk h => by injection h with h; exact hk.2 h)) (fun _ _ => trivial)
theorem PW.state (F : PW w W g p nv) (s : Int) : PW w (W.setCell ⟨g, 4, none⟩ (.int .i64 s)) g ⟨s, p.n, p.h⟩ nv := by
  obtain ⟨x0, x1, x2, hx, hh⟩ := F.blk
  refine F.grown (grown_set (grown_refl _ _) 4 _) rfl ⟨F.st.hb.setCell F.st.ge _, F.st.ge, F.st.l3, x0, x1, x2, ?_, hh⟩
  simpa using blk_set hx 4 (.int .i64 s)
/-- Another's blocks were written. -/
theorem PW.kept (F : PW w W g p nv) {S : Nat → Prop} (hk : Kept W W1 S) (hb : Below w.heap.size w W1) (hg : ¬ S g) (hn : ∀ k, nv.ownBlock = some k → ¬ S k) : PW w W1 g p nv := by
  obtain ⟨x0, x1, x2, hx, hh⟩ := F.blk
  refine ⟨⟨hb, F.st.ge, F.st.l3, x0, x1, x2, blk_kept hx hk hg, hh⟩, ?_⟩
  refine Kd.R_mono (Kd.R_kept (ok := fun k => nv.ownBlock = some k) ?_ hk (fun k h => hn k h)) (fun _ _ => trivial)
  obtain ⟨h0, h1⟩ := F.rn
  exact ⟨fun k hk => hk, h1⟩
set_option maxRecDepth 100000 in
set_option maxHeartbeats 4000000 in
theorem PFlush_any (F : PW w W g p nv) :
    Calls Try.prog 14 #[.pointer (some ⟨g, 0, none⟩)] W fun e w' => ∃ A c, e = .returned (.slice A (flushV p.h).length c) ∧ (flushV p.h).length ≤ c ∧ Kd.F kEv w' (fun k => W.heap.size ≤ k) A (flushV p.h).length (flushV p.h) ∧ PW w w' g ⟨0, p.n, []⟩ nv ∧ Kept W w' (fun k => k = g) := by
  obtain ⟨x0, x1, x2, hx, -⟩ := F.blk
  have hc4 : W.cell? ⟨g, 4, none⟩ = some (.int .i64 p.st) := (blk_cell hx 4).trans rfl
  have hf4 := blk_frozen hx 4
  obtain ⟨r, hr⟩ : ∃ r, (if p.h = [] then ([] : List Int) else [65533]) = r := ⟨_, rfl⟩
  have HRL := Aside0.mk (show r.length ≤ 1 by rw [← hr]; exact flush_rl p.h)
  rw [show flushV p.h = prV r by rw [← flush_r, hr]]
  have HS := Aside0.mk (F.state 0)
  have HR := Aside0.mk hr
  clear F hx hr
  go_enter Try.func14, Try.ntmps14
  go_wp2_with (first | (go_at_call 24; go_must (refine (Flush_any w _ g p.h r HS.out.st HR.out).mono ?_); rintro e w1 ⟨v1, rfl, hR1, hS1, hG1⟩; obtain ⟨A1, c1, rfl, hc1, hC1⟩ := Kd.R_reads hR1; have H1 := Aside0.mk (And.intro hc1 (And.intro hC1 (And.intro (HS.out.grown hG1 (q := ⟨0, p.n, []⟩) rfl hS1) hG1))); clear hR1 hS1 hG1 hc1 hC1) | (go_at_call 23; go_must (refine (parse_printed.calls 1000002 A1 c1 r (prV r) _ H1.out.2.1 H1.out.1 (printed_ok r (by have := HRL.out; omega))).mono ?_); rintro e w2 ⟨v2, rfl, hS2, hb2⟩; obtain ⟨A2, c2, rfl, hc2, -⟩ := Kd.R_reads (Kd.S_R hS2); have H2 := Aside0.mk (And.intro hc2 (And.intro (Kd.F_mono (Kd.S_F (Kd.S_bound hS2)) (fun k hk => hk.2.1)) (And.intro (H1.out.2.2.1.below hb2) hb2))); clear hS2 hb2 hc2))
  all_goals go_ret
  all_goals refine ⟨A2, c2, rfl, H2.out.1, Kd.F_mono H2.out.2.1 (fun k hk => Nat.le_trans ?_ hk), H2.out.2.2.1, (Kept.of_grown H1.out.2.2.2 ((Kept.refl W (fun k => k = g)).setCell (p := ⟨g, 4, none⟩) (.inl rfl) _) (fun k hk => by injection hk with hk; exact .inl hk.symm)).below H2.out.2.2.2⟩
  all_goals exact Nat.le_trans (by simp [World.setCell]) H1.out.2.2.2.size
def restV (p : PP) : Bool := decide (p.st = 0) && decide (p.h = [])
set_option maxRecDepth 100000 in
set_option maxHeartbeats 4000000 in
theorem PRest_any (F : PW w W g p nv) {r : Bool} (hr : restV p = r) :
    Calls Try.prog 10 #[.pointer (some ⟨g, 0, none⟩)] W fun e w' => e = .returned (.bool r) ∧ Below W.heap.size W w' := by
  obtain ⟨x0, x1, x2, hx, -⟩ := F.blk
  have hc4 : W.cell? ⟨g, 4, none⟩ = some (.int .i64 p.st) := (blk_cell hx 4).trans rfl
  have HF := Aside0.mk F
  by_cases h0 : p.st = 0
  · have hT : (p.st == 0) = true := by rw [h0]; rfl
    have HR := Aside0.mk (show decide (p.h = []) = r by rw [← hr]; unfold restV; rw [h0]; simp)
    have hT2 : (((p.h.length : Nat) : Int) == 0) = r := by
      rw [← HR.out]
      by_cases h : p.h = []
      · rw [h]; rfl
      · rw [decide_eq_false h, beq_eq_false_iff_ne]; have := List.length_pos_iff.2 h; omega
    clear F hx hr
    go_enter Try.func10, Try.ntmps10
    go_wp2_with (first | (go_at_call 27; go_must (refine (Held_any w W g p.h HF.out.st).mono ?_); rintro e w1 ⟨v1, rfl, hR1, hb1⟩; obtain ⟨A1, c1, rfl⟩ := Kd.R_slice hR1; have H1 := Aside0.mk hb1; clear hR1 hb1))
    all_goals go_ret
    all_goals exact ⟨rfl, H1.out⟩
  · have hT : (p.st == 0) = false := by rw [beq_eq_false_iff_ne]; exact h0
    obtain rfl : false = r := by rw [← hr]; unfold restV; rw [decide_eq_false h0]; rfl
    clear F hx hr
    go_enter Try.func10, Try.ntmps10
    go_wp2
    all_goals go_ret
    all_goals exact ⟨rfl, Below.refl _ _⟩
theorem PRest_nil (w : World) : Calls Try.prog 10 #[.pointer none] w fun e w' => e = .returned (.bool false) ∧ w' = w := by
  go_enter Try.func10, Try.ntmps10
  go_wp2
  all_goals go_ret
  all_goals exact ⟨rfl, rfl⟩
theorem PFlush_nil (w : World) : Calls Try.prog 14 #[.pointer none] w fun e w' => e = .returned (.slice none 0 0) ∧ w' = w := by
  go_enter Try.func14, Try.ntmps14
  go_wp2
  all_goals go_ret
  all_goals exact ⟨rfl, rfl⟩
set_option maxRecDepth 100000 in
set_option maxHeartbeats 4000000 in
theorem PFeed_nil (v : Value) (w : World) : Calls Try.prog 9 #[.pointer none, v] w fun e w' => e = .returned (.slice none 0 0) ∧ w' = w := by
  go_enter Try.func9, Try.ntmps9
  go_wp2
  refine wp_scope_same (by intro _ _ _ h; exact h) ?_
  go_wp2
  all_goals go_ret
  all_goals exact ⟨rfl, rfl⟩
theorem PCopy_nil (w : World) : Calls Try.prog 7 #[.pointer none] w fun e w' => e = .returned (.pointer none) ∧ w' = w := by
  go_enter Try.func7, Try.ntmps7
  go_wp2
  all_goals go_ret
  all_goals exact ⟨rfl, rfl⟩
set_option maxRecDepth 100000 in
set_option maxHeartbeats 4000000 in
theorem PCopy_any (F : PW w W g p nv) (hn : p.n.length ≤ 1000000) :
    Calls Try.prog 7 #[.pointer (some ⟨g, 0, none⟩)] W fun e w' => e = .returned (.pointer (some ⟨W.heap.size, 0, none⟩)) ∧ ∃ nv1, PW w w' W.heap.size p nv1 ∧ Below W.heap.size W w' ∧ (∀ k, nv1.ownBlock = some k → W.heap.size < k) := by
  obtain ⟨x0, x1, x2, hx, hh⟩ := F.blk
  have hc0 : W.cell? ⟨g, 0, none⟩ = some (.int .u8 x0) := (blk_cell hx 0).trans rfl
  have hc1 : W.cell? ⟨g, 1, none⟩ = some (.int .u8 x1) := (blk_cell hx 1).trans rfl
  have hc2 : W.cell? ⟨g, 2, none⟩ = some (.int .u8 x2) := (blk_cell hx 2).trans rfl
  have hc3 : W.cell? ⟨g, 3, none⟩ = some (.int .i64 p.h.length) := (blk_cell hx 3).trans rfl
  have hc4 : W.cell? ⟨g, 4, none⟩ = some (.int .i64 p.st) := (blk_cell hx 4).trans rfl
  have hc5 : W.cell? ⟨g, 5, none⟩ = some nv := (blk_cell hx 5).trans rfl
  obtain ⟨A, c, rfl, hcn, hC⟩ := Kd.R_reads F.rn
  have hO : ∃ o : Obj, o = .cells #[.int .u8 x0, .int .u8 x1, .int .u8 x2, .int .i64 p.h.length, .int .i64 p.st, .slice A p.n.length c] 28 := ⟨_, rfl⟩
  have hx' := blk_alloc hx (.cells #[.int .u8 x0, .int .u8 x1, .int .u8 x2, .int .i64 p.h.length, .int .i64 p.st, .slice A p.n.length c] 28)
  have hca := (blk_cell hx' 5).trans (rfl : _ = some (Value.slice A p.n.length c))
  have HF := Aside0.mk F
  have HH := Aside0.mk hh
  have HC := Aside0.mk (And.intro hC hn)
  have HN := Aside0.mk (blk_new W (.cells #[.int .u8 x0, .int .u8 x1, .int .u8 x2, .int .i64 p.h.length, .int .i64 p.st, .slice A p.n.length c] 28))
  clear F hx hC hn hcn hh hO hx'
  go_enter Try.func7, Try.ntmps7
  go_wp2_with (first | (go_at_call 21; go_must (refine (Clone_int A c p.n _ (Kd.C_below HC.out.1 (below_alloc (Below.refl _ _) _)) HC.out.2).mono ?_); rintro e w1 ⟨v1, rfl, hR1, hb1⟩; have hb2 := hb1; obtain ⟨A1, c1, rfl⟩ := Kd.R_slice hR1; have hy := blk_below HN.out hb1; have hy5 : w1.cell? ⟨W.heap.size, 5, none⟩ = some (.slice A p.n.length c) := (blk_cell hy 5).trans rfl; have hyf := blk_frozen hy 5; have H1 := Aside0.mk (And.intro hy (And.intro hR1 hb2)); clear hR1 hb1 hb2 hy))
  all_goals go_ret
  have hsz : (W.alloc (.cells #[.int .u8 x0, .int .u8 x1, .int .u8 x2, .int .i64 p.h.length, .int .i64 p.st, .slice A p.n.length c] 28)).heap.size = W.heap.size + 1 := by show (W.heap.push _).size = _; simp
  have hwW : w.heap.size ≤ W.heap.size := HF.out.st.hb.size
  have hbb : Below W.heap.size W w1 := below_step (below_alloc (Below.refl _ _) _) H1.out.2.2
  have hr : Kd.R (Kd.int .i64) 3 w1 (W.heap.size + 1) (fun _ => True) (.slice A1 p.n.length c1) p.n := by have := H1.out.2.1; rw [hsz] at this; exact this
  all_goals refine ⟨rfl, .slice A1 p.n.length c1, ⟨⟨(below_then HF.out.st.hb HF.out.st.hb.size hbb).setCell hwW _, hwW, HF.out.st.l3, x0, x1, x2, by simpa using blk_set H1.out.1 5 (.slice A1 p.n.length c1), HH.out⟩, Kd.R_set (Kd.R_lower hr (by omega)) H1.out.1 (by decide) 5 _⟩, hbb.setCell (Nat.le_refl _) _, fun k hk => by have := Kd.R_base hr k hk; omega⟩
end
end Go.Proofs.Ytlllbaieidbcdaa.Str
namespace Go.Proofs.Ytlllbaieidbcdaa.Str
open Go.RowKit Go.Proofs.Ytlllbaieidbcdaa Go.Proofs.Ytlllbaieidbcdaa.PParseEvents Go.Proofs.YtlllbaieidbcdaaW.PrintWords Go.Proofs.YtlllbaieidbcdaaW.PrintLast Go.Proofs.YtlllbaieidbcdaaW.PrintMore
set_option linter.unusedVariables false
set_option linter.unusedSimpArgs false
set_option maxRecDepth 100000 in
set_option maxHeartbeats 4000000 in
theorem PAll_any (A : Option Addr) (c : Nat) (b : List Int) (W : World) (hC : Kd.C (Kd.int .u8) W A b.length b) (h8 : In8u b) (hb : b.length ≤ 1000) :
    Calls Try.prog 19 #[.slice A b.length c] W fun e w' => ∃ A1 c1, e = .returned (.slice A1 (allV b).length c1) ∧ (allV b).length ≤ c1 ∧ Kd.C kEv w' A1 (allV b).length (allV b) ∧ Below W.heap.size W w' := by
  have hS0 : StS (0 : Int) (.slice none 0 0) W (W.alloc (.cells #[.int .u8 0, .int .u8 0, .int .u8 0, .int .i64 0, .int .i64 0, .slice none 0 0] 28)) W.heap.size [] :=
    ⟨below_alloc (Below.refl _ _) _, Nat.le_refl _, by simp, 0, 0, 0, blk_new _ _, rfl⟩
  obtain ⟨⟨p, E⟩, hp⟩ : ∃ q, feedV ⟨0, [], []⟩ b = q := ⟨_, rfl⟩
  have hel := feed_len b pp0_ok h8
  rw [hp] at hel
  have hall : allV b = E ++ flushV p.h := by unfold allV; rw [hp]
  obtain ⟨Z, hZ⟩ : ∃ Z, allV b = Z := ⟨_, rfl⟩
  have hfl := flushV_len p.h
  have HE := Aside0.mk (show E.length ≤ 4000 by dsimp only at hel; omega)
  have HFL := Aside0.mk hfl
  have HP := Aside0.mk hp
  have HZ := Aside0.mk (show E ++ flushV p.h = Z by rw [← hall, hZ])
  have HS := Aside0.mk hS0
  have HC := Aside0.mk (Kd.F_mono (Kd.F_alloc (Kd.C_F (Kd.heap_int .u8) hC) (.cells #[.int .u8 0, .int .u8 0, .int .u8 0, .int .i64 0, .int .i64 0, .slice none 0 0] 28)) (ok' := fun k => k ≠ W.heap.size ∧ some k ≠ (Value.slice none 0 0).ownBlock) (fun k hk => ⟨Nat.ne_of_lt hk, by simp [Value.ownBlock]⟩))
  have H8 := Aside0.mk h8
  have HB := Aside0.mk hb
  rw [hZ]
  clear hS0 hp hel hall hC h8 hb hZ hfl
  go_enter Try.func19, Try.ntmps19
  go_wp2_with (first | (go_at_call 9; go_must (refine (PFeed_any W _ W.heap.size ⟨0, [], []⟩ (.slice none 0 0) 0 A c b HS.out (Kd.R_nil _ _ _ _ _) pp0_ok (by have := HB.out; omega) HC.out H8.out).mono ?_); rintro e w1 ⟨nv1, vo, rfl, hF⟩; rw [HP.out] at hF; dsimp only at hF; have HF := Aside0.mk hF; clear hF) | (go_at_call 14; go_must (refine (PFlush_any ⟨HF.out.st, HF.out.rn⟩).mono ?_); rintro e w2 ⟨A2, c2, rfl, hc2, hF2, hP2, hK2⟩; have H2 := Aside0.mk (And.intro hF2 (And.intro hP2 hK2)); clear hF2 hP2 hK2 hc2; obtain ⟨A3, c3, rfl⟩ := Kd.N_slice HF.out.on) | ((with_reducible refine gate_builtin (b := .append) (xs := #[.tmp 5, .tmp 6]) rfl ?_); go_must (at_builtin); go_must (refine Kd.N_append_rows kEv (w0 := w2) (W.alloc (.cells #[.int .u8 0, .int .u8 0, .int .u8 0, .int .i64 0, .int .i64 0, .slice none 0 0] 28)).heap.size rfl (.tmp 5) (.tmp 6) 38 46 _ 40 rfl Try.underlying38 infoEv rfl (by decide) (by omega) (.slice A3 E.length c3) E (flushV p.h) A2 _ c2 (fun k => (W.alloc (.cells #[.int .u8 0, .int .u8 0, .int .u8 0, .int .i64 0, .int .i64 0, .slice none 0 0] 28)).heap.size < k ∧ some k ≠ nv1.ownBlock) _ rfl rfl (Kd.N_kept HF.out.on H2.out.2.2 (fun k hk h => by have := HF.out.gl; omega)) H2.out.1 HF.out.freshOk ?aF (Below.refl _ _) ?aB (by have := HE.out; have := HFL.out; omega) ?_); (case aF => exact fun k hk => (HF.out.freshOk k (Nat.le_trans H2.out.2.2.1 hk)).1); (case aB => exact Nat.le_of_lt (Nat.lt_of_lt_of_le HF.out.gs H2.out.2.2.1)); intro v4 w4 ho hb hg hat; rw [HZ.out] at ho; obtain ⟨A4, c4, rfl, hc4, hC4⟩ := Kd.N_reads ho; have H4 := Aside0.mk (And.intro hc4 (And.intro hC4 hb)); clear ho hb hg hat hc4 hC4))
  all_goals go_ret
  all_goals exact ⟨A4, c4, rfl, H4.out.1, H4.out.2.1, H2.out.2.1.st.hb.trans (H4.out.2.2.mono (by simp))⟩
instance : DecidableEq S48 := fun x y => decidable_of_iff (x.f0 = y.f0 ∧ x.f1 = y.f1 ∧ x.f2 = y.f2) ⟨fun h => by cases x; cases y; simp only at h; obtain ⟨rfl, rfl, rfl⟩ := h; rfl, fun h => by subst h; exact ⟨rfl, rfl, rfl⟩⟩
instance : DecidableEq S46 := fun x y => decidable_of_iff (x.f0 = y.f0 ∧ x.f1 = y.f1 ∧ x.f2 = y.f2) ⟨fun h => by cases x; cases y; simp only at h; obtain ⟨rfl, rfl, rfl⟩ := h; rfl, fun h => by subst h; exact ⟨rfl, rfl, rfl⟩⟩
def ev48 (x : S46) : S48 := ⟨x.f0, x.f1, x.f2⟩
theorem dropE {α : Type} {xs : List α} (z : α) {i : Nat} (h : i < xs.length) : xs.drop i = xs.getD i z :: xs.drop (i + 1) := by
  rw [List.drop_eq_getElem_cons h]
  simp [List.getD_eq_getElem?_getD, h]
theorem Same_in (a : List S46) (b : List S48) (i : Nat) (ha : i < a.length) (hb : i < b.length) (n m : List Int) (hn : (rd_T46 a (i : Int)).f2 = n) (hm : (rd_T48 b (i : Int)).f2 = m) (hl : n.length = m.length) (hla : a.length ≤ 1000000) (hnl : n.length ≤ 9223372036854775807) (K0 : Nat) (R : Bool)
    (hR : ∀ k, K0 ≤ k → prolepsislaw08_Same.l0 k a b ((i + 1 : Nat) : Int) = some R) : ∀ (e j k : Nat), j + e = n.length → K0 + e < k → prolepsislaw08_Same.l1 k a b (i : Int) (j : Int) = some (decide (n.drop j = m.drop j) && R) := by
  intro e
  induction e with
  | zero =>
    intro j k hj hk
    obtain ⟨k, rfl⟩ := kp hk
    rw [prolepsislaw08_Same.l1, hn, hm, if_pos (by omega), if_pos (by omega), if_neg (by omega), w64 (by omega) (by omega), cast1, hR k (by omega), List.drop_of_length_le (by omega), List.drop_of_length_le (by omega)]
    simp
  | succ e ih =>
    intro j k hj hk
    obtain ⟨k, rfl⟩ := kp hk
    rw [prolepsislaw08_Same.l1, hn, hm, if_pos (by omega), if_pos (by omega), if_pos (by omega), if_pos (by omega), if_pos (by omega), if_pos (by omega)]
    by_cases he : rd n (j : Int) = rd m (j : Int)
    · rw [if_pos he, w64 (by omega) (by omega), cast1, ih (j + 1) k (by omega) (by omega), drop_rd (show j < n.length by omega), drop_rd (show j < m.length by omega), he]
      simp
    · rw [if_neg he, drop_rd (show j < n.length by omega), drop_rd (show j < m.length by omega), decide_eq_false (by simp [he])]
      simp
def smallEv (a : List S46) (M : Nat) : Prop := ∀ x ∈ a, (-2147483648 ≤ x.f1 ∧ x.f1 ≤ 2147483647) ∧ x.f2.length ≤ M
theorem Same_out (a : List S46) (b : List S48) (hl : a.length = b.length) (M : Nat) (hM : M ≤ 9223372036854775807) (hs : smallEv a M) (hla : a.length ≤ 1000000) :
    ∀ (d i k : Nat), i + d = a.length → d * (M + 3) < k → prolepsislaw08_Same.l0 k a b (i : Int) = some (decide ((a.drop i).map ev48 = b.drop i)) := by
  intro d
  induction d with
  | zero =>
    intro i k hi hk
    obtain ⟨k, rfl⟩ := kp hk
    rw [prolepsislaw08_Same.l0, if_neg (by omega), List.drop_of_length_le (by omega), List.drop_of_length_le (by omega)]
    rfl
  | succ d ih =>
    intro i k hi hk
    have hia : i < a.length := by omega
    have hib : i < b.length := by omega
    have hx : rd_T46 a (i : Int) ∈ a := by simp [rd_T46, List.getD_eq_getElem?_getD, hia]
    have hda : a.drop i = rd_T46 a (i : Int) :: a.drop (i + 1) := by rw [dropE z46 hia]; rfl
    have hdb : b.drop i = rd_T48 b (i : Int) :: b.drop (i + 1) := by rw [dropE z48 hib]; rfl
    obtain ⟨x, hxe⟩ : ∃ x, rd_T46 a (i : Int) = x := ⟨_, rfl⟩
    obtain ⟨y, hye⟩ : ∃ y, rd_T48 b (i : Int) = y := ⟨_, rfl⟩
    have hsx := hs _ hx
    rw [hxe] at hda hsx
    rw [hye] at hdb
    rw [hda, hdb, List.map_cons]
    have hmul : (d + 1) * (M + 3) = d * (M + 3) + (M + 3) := by rw [Nat.succ_mul]
    have hnz : 0 < k := by omega
    obtain ⟨k, rfl⟩ := kp hnz
    rw [prolepsislaw08_Same.l0, hxe, hye, if_pos (by omega), if_pos (by omega), if_pos (by omega), w64 (by omega) (by omega)]
    obtain ⟨x0, x1, x2⟩ := x
    obtain ⟨y0, y1, y2⟩ := y
    dsimp only at *
    have hj : ∀ t, prolepsislaw08_Same.j1 k a b (i : Int) t = if t = true then some false else prolepsislaw08_Same.l1 (k - 1) a b (i : Int) 0 := by
      intro t
      obtain ⟨k, rfl⟩ := kp (show 0 < k by omega)
      rw [prolepsislaw08_Same.j1]
      rfl
    by_cases h0 : x0 = y0
    · rw [if_pos h0]
      by_cases h1 : x1 = y1
      · rw [if_pos h1, hj]
        by_cases h2 : x2.length = y2.length
        · rw [if_neg (by simp [h2])]
          have := Same_in a b i hia hib x2 y2 (by rw [hxe]) (by rw [hye]) h2 hla (by omega) (d * (M + 3) + 1) _ (fun k' hk' => ih (i + 1) k' (by omega) (by omega)) x2.length 0 (k - 1) (by omega) (by omega)
          rw [show ((0 : Nat) : Int) = 0 from rfl] at this
          rw [this, List.drop_zero, List.drop_zero]
          subst h0 h1
          simp [ev48]
        · rw [if_pos (by rw [bne_iff_ne]; omega), decide_eq_false]
          intro h
          injection h with h h'
          simp only [ev48] at h
          injection h with _ _ h
          exact h2 (by rw [h])
      · rw [if_neg h1, hj, if_pos rfl, decide_eq_false]
        intro h
        injection h with h h'
        simp only [ev48] at h
        injection h with _ h _
        exact h1 h
    · rw [if_neg h0, hj, if_pos rfl, decide_eq_false]
      intro h
      injection h with h h'
      simp only [ev48] at h
      injection h with h _ _
      exact h0 h
theorem Same_f (a : List S46) (b : List S48) (M : Nat) (hM : M ≤ 9223372036854775807) (hs : smallEv a M) (hla : a.length ≤ 1000000) : prolepsislaw08_Same.f (a.length * (M + 3) + 1) a b = some (decide (a.map ev48 = b)) := by
  unfold prolepsislaw08_Same.f
  by_cases hl : a.length = b.length
  · rw [if_pos (by omega)]
    have := Same_out a b hl M hM hs hla a.length 0 _ (by omega) (Nat.lt_succ_self _)
    simpa using this
  · rw [if_neg (by omega), decide_eq_false]
    intro h
    exact hl (by rw [← h, List.length_map])
theorem Same_ev (A : Option Addr) (c : Nat) (a : List S46) (A' : Option Addr) (c' : Nat) (b : List S48) (W : World) (hC : Kd.C kEv W A a.length a) (hc : a.length ≤ c) (hC' : Kd.C k48 W A' b.length b) (hc' : b.length ≤ c') (M : Nat) (hM : M ≤ 9223372036854775807) (hs : smallEv a M) (hla : a.length ≤ 1000000) {r : Bool} (hr : decide (a.map ev48 = b) = r) :
    Calls Try.prog 8 #[.slice A a.length c, .slice A' b.length c'] W fun e w' => e = .returned (.bool r) ∧ Below W.heap.size W w' :=
  (prolepsislaw08_Same.calls _ A c a A' c' b r W hC hc hC' hc' (by rw [Same_f a b M hM hs hla, hr])).mono (fun e w' ⟨h, hd⟩ => ⟨h, hd.below⟩)
end Go.Proofs.Ytlllbaieidbcdaa.Str
namespace Go.Proofs.Ytlllbaieidbcdaa.Str
open Go.RowKit Go.Proofs.Ytlllbaieidbcdaa Go.Proofs.Ytlllbaieidbcdaa.PParseEvents Go.Proofs.YtlllbaieidbcdaaW.PrintWords Go.Proofs.YtlllbaieidbcdaaW.PrintLast Go.Proofs.YtlllbaieidbcdaaW.PrintMore
set_option linter.unusedVariables false
set_option linter.unusedSimpArgs false
theorem C_cells {k : IntKind} (w : World) (xs : List Int) (e : Nat) (fr : Nat × Nat) (h : xs.length ≤ 9223372036854775807) : (Kd.int k).C (w.alloc (.cells (xs.map (Value.int k)).toArray e fr)) (some ⟨w.heap.size, 0, none⟩) xs.length xs := by
  refine ⟨rfl, h, fun hn => ⟨_, rfl, fun j p hj => ⟨[.int k p], rfl, rfl, fun i u hu => ?_⟩⟩⟩
  obtain ⟨hl, hp⟩ := List.getElem?_eq_some_iff.1 hj
  have hi : i = 0 := by
    rcases i with _ | i
    · rfl
    · simp at hu
  subst hi
  simp at hu
  subst hu
  show (w.alloc (.cells (xs.map (Value.int k)).toArray e fr)).cell? (Addr.add ⟨w.heap.size, 0, none⟩ (j * 1 + 0)) = _
  have ea : Addr.add ⟨w.heap.size, 0, none⟩ (j * 1 + 0) = ⟨w.heap.size, j, none⟩ := by
    by_cases hj0 : j = 0
    · subst hj0; simp [Addr.add]
    · simp [Addr.add, hj0]
  rw [ea, World.cell?_alloc_mark]
  simp [hl, hp]
theorem evs_C {W : World} {g1 g2 g3 : Nat} {fr : Nat × Nat} (hb : W.heap[g3]? = some (.cells #[.int .i64 3, .int .i64 109, .slice (some ⟨g1, 0, none⟩) 2 2, .int .i64 1, .int .i64 97, .slice none 0 0, .int .i64 3, .int .i64 72, .slice (some ⟨g2, 0, none⟩) 2 2] 48 (0, 0)))
    (h1 : Kd.C (Kd.int .i64) W (some ⟨g1, 0, none⟩) 2 [1, 31]) (h2 : Kd.C (Kd.int .i64) W (some ⟨g2, 0, none⟩) 2 [-1, 5]) : Kd.C k48 W (some ⟨g3, 0, none⟩) 3 [⟨3, 109, [1, 31]⟩, ⟨1, 97, []⟩, ⟨3, 72, [-1, 5]⟩] := by
  refine ⟨rfl, by omega, fun _ => ⟨_, rfl, fun j p hp => ?_⟩⟩
  have ea : ∀ n, (⟨g3, 0, none⟩ : Addr).add n = ⟨g3, n, none⟩ := fun n => by cases n <;> simp [Addr.add]
  have key : ∀ (n i : Nat) (u : Value) (cs : List Value), cs[i]? = some u → (∀ k : Nat, cs[k]? = (#[Value.int .i64 3, .int .i64 109, .slice (some ⟨g1, 0, none⟩) 2 2, .int .i64 1, .int .i64 97, .slice none 0 0, .int .i64 3, .int .i64 72, .slice (some ⟨g2, 0, none⟩) 2 2] : Array Value)[n + k]? ∨ cs[k]? = none) → W.cell? ((⟨g3, 0, none⟩ : Addr).add (n + i)) = some u := by
    intro n i u cs hu h
    rw [ea, blk_cell hb]
    rcases h i with h | h
    · rw [← h]; exact hu
    · rw [h] at hu; cases hu
  match j, hp with
  | 0, hp =>
    obtain rfl := Option.some.inj hp
    exact ⟨_, rfl, k48_mk W ⟨3, 109, [1, 31]⟩ (c2 := 2) (Nat.le_refl _) h1, fun i u hu => key (0 * 3) i u _ hu (fun k => match k with | 0 => .inl rfl | 1 => .inl rfl | 2 => .inl rfl | k + 3 => .inr (by simp))⟩
  | 1, hp =>
    obtain rfl := Option.some.inj hp
    exact ⟨_, rfl, k48_mk W ⟨1, 97, []⟩ (c2 := 0) (Nat.le_refl _) (Kd.C_nil _ _), fun i u hu => key (1 * 3) i u _ hu (fun k => match k with | 0 => .inl rfl | 1 => .inl rfl | 2 => .inl rfl | k + 3 => .inr (by simp))⟩
  | 2, hp =>
    obtain rfl := Option.some.inj hp
    exact ⟨_, rfl, k48_mk W ⟨3, 72, [-1, 5]⟩ (c2 := 2) (Nat.le_refl _) h2, fun i u hu => key (2 * 3) i u _ hu (fun k => match k with | 0 => .inl rfl | 1 => .inl rfl | 2 => .inl rfl | k + 3 => .inr (by simp))⟩
abbrev L19 : List Int := [27, 91, 49, 59, 51, 49, 109, 97, 27, 91, 59, 53, 72, 27, 91, 63, 50, 53, 104]
abbrev E19 : List S46 := [⟨3, 109, [1, 31]⟩, ⟨1, 97, []⟩, ⟨3, 72, [-1, 5]⟩]
theorem all19 : allV L19 = E19 := by kernel_rfl
abbrev F19 : List S48 := [⟨3, 109, [1, 31]⟩, ⟨1, 97, []⟩, ⟨3, 72, [-1, 5]⟩]
theorem small19 : smallEv E19 10 := by
  intro x hx
  simp at hx
  rcases hx with rfl | rfl | rfl <;> simp
theorem alloc_size1 (w : World) (o : Obj) : (w.alloc o).heap.size = w.heap.size + 1 := by show (w.heap.push _).size = _; simp
theorem blk33 (w : World) (o1 o2 o3 : Obj) : (((w.alloc o1).alloc o2).alloc o3).heap[w.heap.size + 1 + 1]? = some o3 := by
  have := blk_new ((w.alloc o1).alloc o2) o3
  rwa [alloc_size1, alloc_size1] at this
theorem c32 (w : World) (o1 o3 : Obj) (xs : List Int) (h : xs.length ≤ 9223372036854775807) : (Kd.int .i64).C (((w.alloc o1).alloc (.cells (xs.map (Value.int .i64)).toArray 3 (0, 0))).alloc o3) (some ⟨w.heap.size + 1, 0, none⟩) xs.length xs := by
  have := Kd.C_alloc (C_cells (k := .i64) (w.alloc o1) xs 3 (0, 0) h) o3
  rwa [alloc_size1] at this
theorem c31 (w : World) (o2 o3 : Obj) (xs : List Int) (h : xs.length ≤ 9223372036854775807) : (Kd.int .i64).C (((w.alloc (.cells (xs.map (Value.int .i64)).toArray 3 (0, 0))).alloc o2).alloc o3) (some ⟨w.heap.size, 0, none⟩) xs.length xs :=
  Kd.C_alloc (Kd.C_alloc (C_cells (k := .i64) w xs 3 (0, 0) h) o2) o3
theorem same19 (A1 : Option Addr) (c1 : Nat) (g : Nat) (W : World) (hC : Kd.C kEv W A1 E19.length E19) (hc : E19.length ≤ c1) (hC' : Kd.C k48 W (some ⟨g, 0, none⟩) F19.length F19) :
    Calls Try.prog 8 #[.slice A1 3 c1, .slice (some ⟨g, 0, none⟩) 3 3] W fun e w' => e = .returned (.bool true) ∧ Below W.heap.size W w' :=
  Same_ev A1 c1 E19 (some ⟨g, 0, none⟩) 3 F19 W hC hc hC' (by decide) 10 (by decide) small19 (by decide) (r := true) (by decide)
set_option maxHeartbeats 4000000 in
set_option maxRecDepth 100000 in
theorem known8 (w : World) : Calls Try.prog 13 #[] w fun e w' => e = .returned (.bool true) ∧ Below w.heap.size w w' := by
  have kc := fun (w : World) (C : Array Value) (n c : Nat) => Lib.run_convert_bytes_const (P := Try.prog) w 29 5 C n c Try.underlying29 Try.underlying5
  have HA := Aside0.mk (PAll_any (some ⟨w.heap.size, 0, none⟩) 19 L19 _ (C_cells w L19 5 (19, 20) (by decide)) (fun x hx => by simp at hx; omega) (by decide))
  rw [all19] at HA
  go_enter Try.func13, Try.ntmps13
  go_wp2_with (first | (go_at_call 19; go_must (refine HA.out.mono ?_); rintro e w1 ⟨A1, c1, rfl, hc1, hC1, hb1⟩; have H1 := Aside0.mk (And.intro hc1 (And.intro hC1 (below_step (below_alloc (Below.refl _ _) _) hb1))); clear hc1 hC1 hb1) | (go_at_call 8; go_must (refine (same19 A1 c1 _ _ (Kd.C_alloc (Kd.C_alloc (Kd.C_alloc H1.out.2.1 _) _) _) H1.out.1 (evs_C (fr := (0, 0)) (g1 := w1.heap.size) (g2 := w1.heap.size + 1) ?h3 ?h1 ?h2)).mono ?_); go_must (case h3 => exact blk33 _ _ _ _); go_must (case h1 => exact c31 w1 _ _ [1, 31] (by decide)); go_must (case h2 => exact c32 w1 _ _ [-1, 5] (by decide)); rintro e w2 ⟨rfl, hb⟩; have HB2 := Aside0.mk (below_step (below_alloc (below_alloc (below_alloc H1.out.2.2 _) _) _) hb); clear hb))
  go_ret
  exact ⟨rfl, HB2.out⟩
end Go.Proofs.Ytlllbaieidbcdaa.Str
namespace Go.Proofs.Ytlllbaieidbcdaa.Str
open Go.RowKit Go.Proofs.Ytlllbaieidbcdaa Go.Proofs.Ytlllbaieidbcdaa.PParseEvents Go.Proofs.YtlllbaieidbcdaaW.PrintWords Go.Proofs.YtlllbaieidbcdaaW.PrintLast Go.Proofs.YtlllbaieidbcdaaW.PrintMore
set_option linter.unusedVariables false
set_option linter.unusedSimpArgs false
theorem take_rd {l : List Int} {i : Nat} (h : i < l.length) : l.take (i + 1) = l.take i ++ [rd l (i : Int)] := by
  rw [List.take_add_one]
  simp [rd, List.getD_eq_getElem?_getD, h]
theorem take_at {α : Type} {l : List α} (z : α) {i : Nat} (h : i < l.length) : l.take (i + 1) = l.take i ++ [l.getD i z] := by
  rw [List.take_add_one]
  simp [List.getD_eq_getElem?_getD, h]
theorem app1_inj {α : Type} {a b : List α} {x y : α} (h : a ++ [x] = b ++ [y]) : x = y := by
  have := congrArg List.getLast? h
  simpa using this
set_option maxRecDepth 100000 in
set_option maxHeartbeats 4000000 in
theorem Equal_int (A : Option Addr) (c : Nat) (l : List Int) (A' : Option Addr) (c' : Nat) (m : List Int) (W : World) (hC : Kd.C (Kd.int .i64) W A l.length l) (hC' : Kd.C (Kd.int .i64) W A' m.length m) (hl : l.length ≤ 9223372036854775807) (hm : m.length ≤ 9223372036854775807) {r : Bool} (hr : decide (l = m) = r) :
    Calls Try.prog 31 #[.slice A l.length c, .slice A' m.length c'] W fun e w' => e = .returned (.bool r) ∧ Below W.heap.size W w' := by
  have HC := Aside0.mk (And.intro hC hC')
  by_cases hlm : l.length = m.length
  case neg =>
    have hT : ((l.length : Int) != (m.length : Int)) = true := by rw [bne_iff_ne]; omega
    obtain rfl : false = r := by rw [← hr, decide_eq_false (fun h => hlm (by rw [h]))]
    clear hC hC' hr hlm
    go_enter Try.func31, Try.ntmps31
    go_wp2
    all_goals go_ret
    all_goals exact ⟨rfl, Below.refl _ _⟩
  case pos =>
    have hT : ((l.length : Int) != (m.length : Int)) = false := by rw [bne_eq_false_iff_eq]; omega
    have HR := Aside0.mk hr
    have HL := Aside0.mk hlm
    clear hC hC' hr hlm
    go_enter Try.func31, Try.ntmps31
    go_wp2
    go_loopg [13] (l.length + 1) (fun kq v13 w' => ∃ (i : Nat), v13 = .int .i64 i ∧ Aside0 (kq + i = l.length + 1 ∧ i ≤ l.length) ∧ Aside0 (l.take i = m.take i) ∧ Aside0 (Below W.heap.size W w'))
    case atStart => exact ⟨0, rfl, ⟨by omega, by omega⟩, ⟨by simp⟩, ⟨Below.refl _ _⟩⟩
    case round =>
      obtain ⟨i, rfl, HK, HT, HB⟩ := hrel
      by_cases hi : i < l.length
      case neg =>
        have hT1 : decide ((i : Int) < (l.length : Int)) = false := decide_eq_false (by omega)
        obtain rfl : true = r := by
          rw [← HR.out, decide_eq_true]
          have := HT.out
          rwa [List.take_of_length_le (by omega), List.take_of_length_le (by have := HL.out; omega)] at this
        go_wp2
        all_goals go_ret
        all_goals exact ⟨rfl, HB.out⟩
      case pos =>
        have hT1 : decide ((i : Int) < (l.length : Int)) = true := decide_eq_true (by omega)
        have him : (i : Int) < (m.length : Int) := by have := HL.out; omega
        obtain ⟨ad, rfl, hc1⟩ := Kd.at_int (Kd.C_below HC.out.1 HB.out) (i : Int) (by omega) (by omega)
        obtain ⟨ad', rfl, hc2⟩ := Kd.at_int (Kd.C_below HC.out.2 HB.out) (i : Int) (by omega) (by omega)
        rw [Int.toNat_natCast] at hc1 hc2
        have htl := take_rd hi
        have htm := take_rd (show i < m.length by omega)
        obtain ⟨x, hx⟩ : ∃ x, rd l (i : Int) = x := ⟨_, rfl⟩
        obtain ⟨y, hy⟩ : ∃ y, rd m (i : Int) = y := ⟨_, rfl⟩
        rw [hx] at hc1 htl
        rw [hy] at hc2 htm
        clear hx hy
        by_cases hxy : x = y
        · subst hxy
          have hT2 : (x != x) = false := by simp
          have HT2 := Aside0.mk (show l.take (i + 1) = m.take (i + 1) by rw [htl, htm, HT.out])
          clear htl htm
          go_wp2
          go_quiet (fail)
          go_wp2
          go_roundg (gk - 1)
          case measure => have := HK.out; omega
          case rel => exact ⟨i + 1, by go_num, ⟨by have := HK.out; omega, by omega⟩, HT2, ⟨below_then HB.out HB.out.size (pw_below_drewN (Below.refl _ _) nq)⟩⟩
        · have hT2 : (x != y) = true := by rw [bne_iff_ne]; exact hxy
          obtain rfl : false = r := by
            rw [← HR.out, decide_eq_false]
            intro h
            rw [h, htm] at htl
            exact hxy (app1_inj htl).symm
          clear htl htm
          go_wp2
          go_quiet (fail)
          go_wp2
          all_goals go_ret
          all_goals exact ⟨rfl, below_then HB.out HB.out.size (pw_below_drewN (Below.refl _ _) nq)⟩
theorem ev_eq {x y : S46} : x = y ↔ x.f0 = y.f0 ∧ x.f1 = y.f1 ∧ x.f2 = y.f2 := ⟨fun h => by subst h; exact ⟨rfl, rfl, rfl⟩, fun h => by cases x; cases y; simp only at h; obtain ⟨rfl, rfl, rfl⟩ := h; rfl⟩
set_option maxRecDepth 100000 in
set_option maxHeartbeats 4000000 in
theorem EvSame_any (x y : S46) (A : Option Addr) (c : Nat) (A' : Option Addr) (c' : Nat) (W : World) (hC : Kd.C (Kd.int .i64) W A x.f2.length x.f2) (hC' : Kd.C (Kd.int .i64) W A' y.f2.length y.f2) (hl : x.f2.length ≤ 9223372036854775807) (hm : y.f2.length ≤ 9223372036854775807) {r : Bool} (hr : decide (x = y) = r) :
    Calls Try.prog 30 #[.agg #[.int .i64 x.f0, .int .i32 x.f1, .slice A x.f2.length c], .agg #[.int .i64 y.f0, .int .i32 y.f1, .slice A' y.f2.length c']] W fun e w' => e = .returned (.bool r) ∧ Below W.heap.size W w' := by
  have HC := Aside0.mk (And.intro hC hC')
  have HL := Aside0.mk (And.intro hl hm)
  by_cases h0 : x.f0 = y.f0
  case neg =>
    have hT : (x.f0 == y.f0) = false := by rw [beq_eq_false_iff_ne]; exact h0
    obtain rfl : false = r := by rw [← hr, decide_eq_false (fun h => h0 (by rw [h]))]
    clear hC hC' hl hm hr
    go_enter Try.func30, Try.ntmps30
    go_wp2
    all_goals go_ret
    all_goals exact ⟨rfl, (by repeat (first | exact Below.refl _ _ | apply below_alloc | apply pw_below_drewN | apply below_drew1 | (refine Below.setCell ?_ (by simp) _)))⟩
  have hT : (x.f0 == y.f0) = true := by rw [beq_iff_eq]; exact h0
  by_cases h1 : x.f1 = y.f1
  case neg =>
    have hT1 : (x.f1 == y.f1) = false := by rw [beq_eq_false_iff_ne]; exact h1
    obtain rfl : false = r := by rw [← hr, decide_eq_false (fun h => h1 (by rw [h]))]
    clear hC hC' hl hm hr h0
    go_enter Try.func30, Try.ntmps30
    go_wp2
    all_goals go_ret
    all_goals exact ⟨rfl, (by repeat (first | exact Below.refl _ _ | apply below_alloc | apply pw_below_drewN | apply below_drew1 | (refine Below.setCell ?_ (by simp) _)))⟩
  have hT1 : (x.f1 == y.f1) = true := by rw [beq_iff_eq]; exact h1
  have HR := Aside0.mk (show decide (x.f2 = y.f2) = r by rw [← hr, decide_eq_decide]; exact ⟨fun h => ev_eq.2 ⟨h0, h1, h⟩, fun h => by rw [h]⟩)
  clear hC hC' hl hm hr h0 h1
  go_enter Try.func30, Try.ntmps30
  go_wp2_with (first | (go_at_call 31; go_must (refine (Equal_int A c x.f2 A' c' y.f2 _ (Kd.C_below HC.out.1 (by repeat (first | exact Below.refl _ _ | apply below_alloc | apply pw_below_drewN | apply below_drew1 | (refine Below.setCell ?_ (by simp) _)))) (Kd.C_below HC.out.2 (by repeat (first | exact Below.refl _ _ | apply below_alloc | apply pw_below_drewN | apply below_drew1 | (refine Below.setCell ?_ (by simp) _)))) HL.out.1 HL.out.2 HR.out).mono ?_); rintro e w1 ⟨rfl, hb⟩; have H1 := Aside0.mk (show Below W.heap.size W w1 from below_step (by repeat (first | exact Below.refl _ _ | apply below_alloc | apply pw_below_drewN | apply below_drew1 | (refine Below.setCell ?_ (by simp) _))) hb); clear hb))
  all_goals go_ret
  all_goals exact ⟨rfl, H1.out⟩
set_option maxRecDepth 100000 in
set_option maxHeartbeats 4000000 in
theorem EqualFunc_ev (A : Option Addr) (c : Nat) (l : List S46) (A' : Option Addr) (c' : Nat) (m : List S46) (W : World) (hC : Kd.C kEv W A l.length l) (hC' : Kd.C kEv W A' m.length m) (hl : l.length ≤ 1000000) (hm : m.length ≤ 1000000) (hnl : ∀ x ∈ l, x.f2.length ≤ 9223372036854775807) (hnm : ∀ x ∈ m, x.f2.length ≤ 9223372036854775807) {r : Bool} (hr : decide (l = m) = r) :
    Calls Try.prog 29 #[.slice A l.length c, .slice A' m.length c', .func (.func 30) #[] #[]] W fun e w' => e = .returned (.bool r) ∧ Below W.heap.size W w' := by
  have HC := Aside0.mk (And.intro hC hC')
  have HN := Aside0.mk (And.intro hnl hnm)
  by_cases hlm : l.length = m.length
  case neg =>
    have hT : ((l.length : Int) != (m.length : Int)) = true := by rw [bne_iff_ne]; omega
    obtain rfl : false = r := by rw [← hr, decide_eq_false (fun h => hlm (by rw [h]))]
    clear hC hC' hr hlm hnl hnm
    go_enter Try.func29, Try.ntmps29
    go_wp2
    all_goals go_ret
    all_goals exact ⟨rfl, Below.refl _ _⟩
  case pos =>
    have hT : ((l.length : Int) != (m.length : Int)) = false := by rw [bne_eq_false_iff_eq]; omega
    have HR := Aside0.mk hr
    have HL := Aside0.mk hlm
    clear hC hC' hr hlm hnl hnm
    go_enter Try.func29, Try.ntmps29
    go_wp2
    go_loopg [17] (l.length + 1) (fun kq v17 w' => ∃ (i : Nat), v17 = .int .i64 i ∧ Aside0 (kq + i = l.length + 1 ∧ i ≤ l.length) ∧ Aside0 (l.take i = m.take i) ∧ Aside0 (Below W.heap.size W w'))
    case atStart => exact ⟨0, rfl, ⟨by omega, by omega⟩, ⟨by simp⟩, ⟨Below.refl _ _⟩⟩
    case round =>
      obtain ⟨i, rfl, HK, HT, HB⟩ := hrel
      by_cases hi : i < l.length
      case neg =>
        have hT1 : decide ((i : Int) < (l.length : Int)) = false := decide_eq_false (by omega)
        obtain rfl : true = r := by
          rw [← HR.out, decide_eq_true]
          have := HT.out
          rwa [List.take_of_length_le (by omega), List.take_of_length_le (by have := HL.out; omega)] at this
        go_wp2
        all_goals go_ret
        all_goals exact ⟨rfl, HB.out⟩
      case pos =>
        have hT1 : decide ((i : Int) < (l.length : Int)) = true := decide_eq_true (by omega)
        have him : (i : Int) < (m.length : Int) := by have := HL.out; omega
        have hxl : rd_T46 l (i : Int) ∈ l := by simp [rd_T46, List.getD_eq_getElem?_getD, hi]
        have hyl : rd_T46 m (i : Int) ∈ m := by simp [rd_T46, List.getD_eq_getElem?_getD, show i < m.length by omega]
        obtain ⟨ad, A2, c2, rfl, ha0, ha1, ha2, hac, hA⟩ := at_T46 (Kd.C_below HC.out.1 HB.out) (i : Int) (by omega) (by omega)
        obtain ⟨ad', A3, c3, rfl, hb0, hb1, hb2, hbc, hB⟩ := at_T46 (Kd.C_below HC.out.2 HB.out) (i : Int) (by omega) (by omega)
        rw [Int.toNat_natCast] at ha0 ha1 ha2 hb0 hb1 hb2
        have htl : l.take (i + 1) = l.take i ++ [rd_T46 l (i : Int)] := take_at _ hi
        have htm : m.take (i + 1) = m.take i ++ [rd_T46 m (i : Int)] := take_at _ (show i < m.length by omega)
        have hxn := HN.out.1 _ hxl
        have hyn := HN.out.2 _ hyl
        obtain ⟨x, hx⟩ : ∃ x, rd_T46 l (i : Int) = x := ⟨_, rfl⟩
        obtain ⟨y, hy⟩ : ∃ y, rd_T46 m (i : Int) = y := ⟨_, rfl⟩
        rw [hx] at ha0 ha1 ha2 hac hA htl hxn
        rw [hy] at hb0 hb1 hb2 hbc hB htm hyn
        have hb0 := fun o => (World.cell?_alloc_lt _ o _ (World.block_lt_of_cell? _ _ hb0)).trans hb0
        have hb1 := fun o => (World.cell?_alloc_lt _ o _ (World.block_lt_of_cell? _ _ hb1)).trans hb1
        have hb2 := fun o => (World.cell?_alloc_lt _ o _ (World.block_lt_of_cell? _ _ hb2)).trans hb2
        obtain ⟨q, hq⟩ : ∃ q, decide (x = y) = q := ⟨_, rfl⟩
        have HQ := Aside0.mk hq
        have HXY := Aside0.mk (And.intro hA (And.intro hB (And.intro hxn hyn)))
        have HTT := Aside0.mk (And.intro htl htm)
        clear hx hy hxl hyl htl htm hA hB hxn hyn hq hac hbc
        cases q
        · obtain rfl : false = r := by
            rw [← HR.out, decide_eq_false]
            intro h
            have h1 := HTT.out.1
            rw [h, HTT.out.2] at h1
            exact of_decide_eq_false HQ.out (app1_inj h1).symm
          go_wp2_with (first | (go_at_call 30; go_must (refine (EvSame_any x y A2 c2 A3 c3 _ (Kd.C_below HXY.out.1 (by repeat (first | exact Below.refl _ _ | apply below_alloc | apply pw_below_drewN | apply below_drew1 | (refine Below.setCell ?_ (by simp) _)))) (Kd.C_below HXY.out.2.1 (by repeat (first | exact Below.refl _ _ | apply below_alloc | apply pw_below_drewN | apply below_drew1 | (refine Below.setCell ?_ (by simp) _)))) HXY.out.2.2.1 HXY.out.2.2.2 HQ.out).mono ?_); rintro e w1 ⟨rfl, hb⟩; have H1 := Aside0.mk (show Below W.heap.size W w1 from below_then HB.out HB.out.size (below_step (by repeat (first | exact Below.refl _ _ | apply below_alloc | apply pw_below_drewN | apply below_drew1 | (refine Below.setCell ?_ (by simp) _))) hb)); clear hb))
          all_goals go_ret
          all_goals exact ⟨rfl, H1.out⟩
        · go_wp2_with (first | (go_at_call 30; go_must (refine (EvSame_any x y A2 c2 A3 c3 _ (Kd.C_below HXY.out.1 (by repeat (first | exact Below.refl _ _ | apply below_alloc | apply pw_below_drewN | apply below_drew1 | (refine Below.setCell ?_ (by simp) _)))) (Kd.C_below HXY.out.2.1 (by repeat (first | exact Below.refl _ _ | apply below_alloc | apply pw_below_drewN | apply below_drew1 | (refine Below.setCell ?_ (by simp) _)))) HXY.out.2.2.1 HXY.out.2.2.2 HQ.out).mono ?_); rintro e w1 ⟨rfl, hb⟩; have H1 := Aside0.mk (show Below W.heap.size W w1 from below_then HB.out HB.out.size (below_step (by repeat (first | exact Below.refl _ _ | apply below_alloc | apply pw_below_drewN | apply below_drew1 | (refine Below.setCell ?_ (by simp) _))) hb)); clear hb))
          go_roundg (gk - 1)
          case measure => have := HK.out; omega
          case rel => exact ⟨i + 1, by go_num, ⟨by have := HK.out; omega, by omega⟩, ⟨by rw [HTT.out.1, HTT.out.2, HT.out, of_decide_eq_true HQ.out]⟩, H1⟩
theorem PSame_any (A : Option Addr) (c : Nat) (l : List S46) (A' : Option Addr) (c' : Nat) (m : List S46) (W : World) (hC : Kd.C kEv W A l.length l) (hC' : Kd.C kEv W A' m.length m) (hl : l.length ≤ 1000000) (hm : m.length ≤ 1000000) (hnl : ∀ x ∈ l, x.f2.length ≤ 9223372036854775807) (hnm : ∀ x ∈ m, x.f2.length ≤ 9223372036854775807) {r : Bool} (hr : decide (l = m) = r) :
    Calls Try.prog 18 #[.slice A l.length c, .slice A' m.length c'] W fun e w' => e = .returned (.bool r) ∧ Below W.heap.size W w' := by
  have HE := Aside0.mk (EqualFunc_ev A c l A' c' m W hC hC' hl hm hnl hnm hr)
  clear hC hC' hl hm hnl hnm hr
  go_enter Try.func18, Try.ntmps18
  go_wp2_with (first | (go_at_call 29; go_must (refine HE.out.mono ?_); rintro e w1 ⟨rfl, hb⟩; have H1 := Aside0.mk hb; clear hb))
  all_goals go_ret
  all_goals exact ⟨rfl, H1.out⟩
end Go.Proofs.Ytlllbaieidbcdaa.Str
namespace Go.Proofs.Ytlllbaieidbcdaa.Str
open Go.RowKit Go.Proofs.Ytlllbaieidbcdaa Go.Proofs.Ytlllbaieidbcdaa.PParseEvents Go.Proofs.YtlllbaieidbcdaaW.PrintWords Go.Proofs.YtlllbaieidbcdaaW.PrintLast Go.Proofs.YtlllbaieidbcdaaW.PrintMore
set_option linter.unusedVariables false
set_option linter.unusedSimpArgs false
theorem cut_small8 (l : List Int) (h8 : In8u l) : ∀ x ∈ (cutZ l).1, -2147483648 ≤ x ∧ x ≤ 2147483647 := by
  intro x hx
  have := runes_scalar l.length l (Nat.le_refl _) h8 x (by rw [cutZ_runes]; exact List.mem_append_left _ hx)
  have := (scalar_iff x).1 this
  omega
theorem small_app {a b : List Evt} {M : Nat} (ha : smallEv a M) (hb : smallEv b M) : smallEv (a ++ b) M := fun x hx => (List.mem_append.1 hx).elim (ha x) (hb x)
theorem small_nil (M : Nat) : smallEv [] M := fun x hx => by simp at hx
theorem flushV_small (h : List Int) : smallEv (flushV h) 8 := by
  unfold flushV
  split
  · exact small_nil _
  · intro x hx
    rw [List.mem_singleton.1 hx]
    simp
theorem prV_small {l : List Int} (h : ∀ x ∈ l, -2147483648 ≤ x ∧ x ≤ 2147483647) : smallEv (prV l) 8 := by
  intro x hx
  obtain ⟨r, hr, rfl⟩ := List.mem_map.1 hx
  exact ⟨h r hr, by simp⟩
theorem step_small {p : PP} {m : Nat} (h : p.ok m) {b : Int} (h0 : 0 ≤ b) (h1 : b ≤ 255) : smallEv (stepV p b).2 8 := by
  have hc8 : In8u (p.h ++ [b]) := fun x hx => (List.mem_append.1 hx).elim (h.h8 x) (fun hx => by rw [List.mem_singleton.1 hx]; omega)
  unfold stepV
  split
  · split
    · exact flushV_small _
    · refine small_app (flushV_small _) (fun x hx => ?_)
      rw [List.mem_singleton.1 hx]
      exact ⟨by dsimp only; omega, by simp⟩
  · split
    · exact prV_small (cut_small8 _ hc8)
    · split
      · exact small_nil _
      · split
        · dsimp only
          split
          · intro x hx
            rw [List.mem_singleton.1 hx]
            exact ⟨by dsimp only; omega, by dsimp only; rw [List.length_take]; omega⟩
          · exact small_nil _
        · exact small_nil _
theorem feed_small : ∀ (l : List Int) {p : PP} {m : Nat}, p.ok m → In8u l → smallEv (feedV p l).2 8 := by
  intro l
  induction l with
  | nil => intro p m h _; exact small_nil _
  | cons b t ih =>
    intro p m h h8
    have hb := h8 b (by simp)
    rw [feedV]
    exact small_app (step_small h hb.1 hb.2) (ih (step_ok h (b := b) (by omega) (by omega)) (fun x hx => h8 x (by simp [hx])))
theorem all_small (l : List Int) (h8 : In8u l) : smallEv (allV l) 8 := small_app (feed_small l pp0_ok h8) (flushV_small _)
theorem all_len (l : List Int) (h8 : In8u l) : (allV l).length ≤ 4 * l.length + 1 := by
  have := feed_len l pp0_ok h8
  have := flushV_len (feedV ⟨0, [], []⟩ l).1.h
  unfold allV
  rw [List.length_append]
  omega
/-- A parser at g, and what it told so far in a row of the law's own. -/
structure LE (w W : World) (g : Nat) (p : PP) (nv v : Value) (out : List Evt) : Prop where
  pw : PW w W g p nv
  on : Kd.N kEv 46 W (g + 1) (fun k => g < k ∧ some k ≠ nv.ownBlock) v out
section
variable {w W W1 : World} {g : Nat} {nv v : Value} {p : PP} {out : List Evt}
theorem LE.gs (L : LE w W g p nv v out) : g < W.heap.size := by
  obtain ⟨x0, x1, x2, hx, -⟩ := L.pw.blk
  exact blk_lt hx
theorem LE.below (L : LE w W g p nv v out) (hb : Below W.heap.size W W1) : LE w W1 g p nv v out := ⟨L.pw.below hb, Kd.N_below L.on hb⟩
theorem LE.hb (L : LE w W g p nv v out) : Below w.heap.size w W := L.pw.st.hb
theorem LE.app (L : LE w W g p nv v out) {v1 : Value} {out1 : List Evt} (ho : Kd.N kEv 46 W1 (g + 1) (fun k => g < k ∧ some k ≠ nv.ownBlock) v1 out1) (hb : Below (g + 1) W W1) (hg : W.grownBy W1 v.ownBlock) : LE w W1 g p nv v1 out1 := by
  refine ⟨L.pw.kept (S := fun k => some k = v.ownBlock) ⟨hg.size, fun i hi hn => hg.block i hi hn⟩ (L.pw.st.hb.trans (hb.mono (by have := L.pw.st.ge; omega))) (fun h => ?_) (fun k hk h => ?_), ho⟩
  · have := (L.on.1 g h.symm).1; omega
  · exact (L.on.1 k h.symm).2 hk.symm
theorem LE.reads (L : LE w W g p nv v out) : ∃ A c, v = .slice A out.length c ∧ out.length ≤ c ∧ Kd.C kEv W A out.length out := Kd.N_reads L.on
theorem LE_feed (L : LE w W g p nv v out) (m : Nat) (A : Option Addr) (c : Nat) (b : List Int) (hp : p.ok m) (hm : m + b.length ≤ 10000) (hC : Kd.C (Kd.int .u8) w A b.length b) (h8 : In8u b) {q : PP} {E : List Evt} (hf : feedV p b = (q, E)) :
    Calls Try.prog 9 #[.pointer (some ⟨g, 0, none⟩), .slice A b.length c] W fun e w' => ∃ A2 c2 nv1, e = .returned (.slice A2 E.length c2) ∧ E.length ≤ c2 ∧ Kd.F kEv w' (fun k => (g < k ∧ some k ≠ nv1.ownBlock) ∧ some k ≠ v.ownBlock) A2 E.length E ∧ LE w w' g q nv1 v out := by
  have hF : Kd.F (Kd.int .u8) W (fun k => k ≠ g ∧ some k ≠ nv.ownBlock) A b.length b :=
    Kd.F_mono (Kd.F_below (Kd.C_F (Kd.heap_int .u8) hC) L.pw.st.hb) (fun k hk => ⟨by have := L.pw.st.ge; omega, fun h => by have := Kd.R_base L.pw.rn k h.symm; omega⟩)
  refine (PFeed_any w W g p nv m A c b L.pw.st L.pw.rn hp hm hF h8).mono ?_
  rintro e w' ⟨nv1, vo, rfl, F⟩
  rw [hf] at F
  dsimp only at F
  have hgs := L.gs
  obtain ⟨A2, c2, rfl, hc2, -⟩ := Kd.N_reads F.on
  refine ⟨A2, c2, nv1, rfl, hc2, Kd.F_mono (Kd.N_F F.on) (fun k hk => ⟨⟨by have := hk.1; omega, hk.2⟩, fun h => by have := Kd.N_lt L.on k h.symm; have := hk.1; omega⟩), ⟨F.st, F.rn⟩, ?_⟩
  refine Kd.N_mono (Kd.N_kept (Kd.N_bound L.on) F.kp (fun k hk h => h.elim (fun h => by have := hk.1.1; omega) hk.1.2)) (fun k hk => ⟨hk.1.1, fun h => ?_⟩)
  rcases F.nb k h.symm with h | h
  · exact hk.1.2 h.symm
  · have := hk.2; omega
theorem LE_flush (L : LE w W g p nv v out) :
    Calls Try.prog 14 #[.pointer (some ⟨g, 0, none⟩)] W fun e w' => ∃ A2 c2, e = .returned (.slice A2 (flushV p.h).length c2) ∧ (flushV p.h).length ≤ c2 ∧ Kd.F kEv w' (fun k => (g < k ∧ some k ≠ nv.ownBlock) ∧ some k ≠ v.ownBlock) A2 (flushV p.h).length (flushV p.h) ∧ LE w w' g ⟨0, p.n, []⟩ nv v out := by
  refine (PFlush_any L.pw).mono ?_
  rintro e w' ⟨A2, c2, rfl, hc2, hF, hP, hK⟩
  have hgs := L.gs
  exact ⟨A2, c2, rfl, hc2, Kd.F_mono hF (fun k hk => ⟨⟨by omega, fun h => by have := Kd.R_lt L.pw.rn k h.symm; omega⟩, fun h => by have := Kd.N_lt L.on k h.symm; omega⟩), hP, Kd.N_kept L.on hK (fun k hk h => by have := hk.1; omega)⟩
end
end Go.Proofs.Ytlllbaieidbcdaa.Str
