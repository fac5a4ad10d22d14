/- parse.Parser: Flush, Rest, Copy, All; none. -/
import Derived.Test.YtlllbaieidbcdaaPaG
namespace Go.Proofs.Ytlllbaieidbcdaa.Str
open Go.RowKit Go.Proofs.Ytlllbaieidbcdaa Go.Proofs.Ytlllbaieidbcdaa.PParseEvents Go.Proofs.YtlllbaieidbcdaaW.PrintWords Go.Proofs.YtlllbaieidbcdaaW.PrintLast Go.Proofs.YtlllbaieidbcdaaW.PrintMore
set_option linter.unusedVariables false
set_option linter.unusedSimpArgs false
/-- A parser stands at g. -/
structure PW (w W : World) (g : Nat) (p : PP) (nv : Value) : Prop where
  st : StS p.st nv w W g p.h
  rn : Kd.R (Kd.int .i64) 3 W w.heap.size (fun _ => True) nv p.n
section
variable {w W W1 : World} {g : Nat} {nv : Value} {p : PP}
theorem PW.blk (F : PW w W g p nv) : ∃ x0 x1 x2 : Int, W.heap[g]? = some (.cells #[.int .u8 x0, .int .u8 x1, .int .u8 x2, .int .i64 p.h.length, .int .i64 p.st, nv] 28 (0, 0)) ∧ p.h = [x0, x1, x2].take p.h.length := F.st.hx
theorem PW.below (F : PW w W g p nv) (hb : Below W.heap.size W W1) : PW w W1 g p nv := by
  obtain ⟨x0, x1, x2, hx, hh⟩ := F.blk
  exact ⟨⟨below_then F.st.hb F.st.hb.size hb, F.st.ge, F.st.l3, x0, x1, x2, blk_below hx hb, hh⟩, Kd.R_below F.rn hb⟩
theorem PW.grown (F : PW w W g p nv) (hG : W.grownBy W1 (some g)) {q : PP} (hq : q.n = p.n) (hS : StS q.st nv w W1 g q.h) : PW w W1 g q nv := by
  obtain ⟨x0, x1, x2, hx, -⟩ := F.blk
  refine ⟨hS, ?_⟩
  rw [hq]
  exact Kd.R_mono (Kd.R_grown (Kd.R_types F.rn hx (by decide)) hG (fun k hk h => by injection h with h; exact hk.2 h)) (fun _ _ => trivial)
theorem PW.state (F : PW w W g p nv) (s : Int) : PW w (W.setCell ⟨g, 4, none⟩ (.int .i64 s)) g ⟨s, p.n, p.h⟩ nv := by
  obtain ⟨x0, x1, x2, hx, hh⟩ := F.blk
  refine F.grown (grown_set (grown_refl _ _) 4 _) rfl ⟨F.st.hb.setCell F.st.ge _, F.st.ge, F.st.l3, x0, x1, x2, ?_, hh⟩
  simpa using blk_set hx 4 (.int .i64 s)
/-- Another's blocks were written. -/
theorem PW.kept (F : PW w W g p nv) {S : Nat → Prop} (hk : Kept W W1 S) (hb : Below w.heap.size w W1) (hg : ¬ S g) (hn : ∀ k, nv.ownBlock = some k → ¬ S k) : PW w W1 g p nv := by
  obtain ⟨x0, x1, x2, hx, hh⟩ := F.blk
  refine ⟨⟨hb, F.st.ge, F.st.l3, x0, x1, x2, blk_kept hx hk hg, hh⟩, ?_⟩
  refine Kd.R_mono (Kd.R_kept (ok := fun k => nv.ownBlock = some k) ?_ hk (fun k h => hn k h)) (fun _ _ => trivial)
  obtain ⟨h0, h1⟩ := F.rn
  exact ⟨fun k hk => hk, h1⟩
set_option maxRecDepth 100000 in
set_option maxHeartbeats 4000000 in
theorem PFlush_any (F : PW w W g p nv) :
    Calls Try.prog 14 #[.pointer (some ⟨g, 0, none⟩)] W fun e w' => ∃ A c, e = .returned (.slice A (flushV p.h).length c) ∧ (flushV p.h).length ≤ c ∧ Kd.F kEv w' (fun k => W.heap.size ≤ k) A (flushV p.h).length (flushV p.h) ∧ PW w w' g ⟨0, p.n, []⟩ nv ∧ Kept W w' (fun k => k = g) := by
  obtain ⟨x0, x1, x2, hx, -⟩ := F.blk
  have hc4 : W.cell? ⟨g, 4, none⟩ = some (.int .i64 p.st) := (blk_cell hx 4).trans rfl
  have hf4 := blk_frozen hx 4
  obtain ⟨r, hr⟩ : ∃ r, (if p.h = [] then ([] : List Int) else [65533]) = r := ⟨_, rfl⟩
  have HRL := Aside0.mk (show r.length ≤ 1 by rw [← hr]; exact flush_rl p.h)
  rw [show flushV p.h = prV r by rw [← flush_r, hr]]
  have HS := Aside0.mk (F.state 0)
  have HR := Aside0.mk hr
  clear F hx hr
  go_enter Try.func14, Try.ntmps14
  go_wp2_with (first | (go_at_call 24; go_must (refine (Flush_any w _ g p.h r HS.out.st HR.out).mono ?_); rintro e w1 ⟨v1, rfl, hR1, hS1, hG1⟩; obtain ⟨A1, c1, rfl, hc1, hC1⟩ := Kd.R_reads hR1; have H1 := Aside0.mk (And.intro hc1 (And.intro hC1 (And.intro (HS.out.grown hG1 (q := ⟨0, p.n, []⟩) rfl hS1) hG1))); clear hR1 hS1 hG1 hc1 hC1) | (go_at_call 23; go_must (refine (parse_printed.calls 1000002 A1 c1 r (prV r) _ H1.out.2.1 H1.out.1 (printed_ok r (by have := HRL.out; omega))).mono ?_); rintro e w2 ⟨v2, rfl, hS2, hb2⟩; obtain ⟨A2, c2, rfl, hc2, -⟩ := Kd.R_reads (Kd.S_R hS2); have H2 := Aside0.mk (And.intro hc2 (And.intro (Kd.F_mono (Kd.S_F (Kd.S_bound hS2)) (fun k hk => hk.2.1)) (And.intro (H1.out.2.2.1.below hb2) hb2))); clear hS2 hb2 hc2))
  all_goals go_ret
  all_goals refine ⟨A2, c2, rfl, H2.out.1, Kd.F_mono H2.out.2.1 (fun k hk => Nat.le_trans ?_ hk), H2.out.2.2.1, (Kept.of_grown H1.out.2.2.2 ((Kept.refl W (fun k => k = g)).setCell (p := ⟨g, 4, none⟩) (.inl rfl) _) (fun k hk => by injection hk with hk; exact .inl hk.symm)).below H2.out.2.2.2⟩
  all_goals exact Nat.le_trans (by simp [World.setCell]) H1.out.2.2.2.size
def restV (p : PP) : Bool := decide (p.st = 0) && decide (p.h = [])
set_option maxRecDepth 100000 in
set_option maxHeartbeats 4000000 in
theorem PRest_any (F : PW w W g p nv) {r : Bool} (hr : restV p = r) :
    Calls Try.prog 10 #[.pointer (some ⟨g, 0, none⟩)] W fun e w' => e = .returned (.bool r) ∧ Below W.heap.size W w' := by
  obtain ⟨x0, x1, x2, hx, -⟩ := F.blk
  have hc4 : W.cell? ⟨g, 4, none⟩ = some (.int .i64 p.st) := (blk_cell hx 4).trans rfl
  have HF := Aside0.mk F
  by_cases h0 : p.st = 0
  · have hT : (p.st == 0) = true := by rw [h0]; rfl
    have HR := Aside0.mk (show decide (p.h = []) = r by rw [← hr]; unfold restV; rw [h0]; simp)
    have hT2 : (((p.h.length : Nat) : Int) == 0) = r := by
      rw [← HR.out]
      by_cases h : p.h = []
      · rw [h]; rfl
      · rw [decide_eq_false h, beq_eq_false_iff_ne]; have := List.length_pos_iff.2 h; omega
    clear F hx hr
    go_enter Try.func10, Try.ntmps10
    go_wp2_with (first | (go_at_call 27; go_must (refine (Held_any w W g p.h HF.out.st).mono ?_); rintro e w1 ⟨v1, rfl, hR1, hb1⟩; obtain ⟨A1, c1, rfl⟩ := Kd.R_slice hR1; have H1 := Aside0.mk hb1; clear hR1 hb1))
    all_goals go_ret
    all_goals exact ⟨rfl, H1.out⟩
  · have hT : (p.st == 0) = false := by rw [beq_eq_false_iff_ne]; exact h0
    obtain rfl : false = r := by rw [← hr]; unfold restV; rw [decide_eq_false h0]; rfl
    clear F hx hr
    go_enter Try.func10, Try.ntmps10
    go_wp2
    all_goals go_ret
    all_goals exact ⟨rfl, Below.refl _ _⟩
theorem PRest_nil (w : World) : Calls Try.prog 10 #[.pointer none] w fun e w' => e = .returned (.bool false) ∧ w' = w := by
  go_enter Try.func10, Try.ntmps10
  go_wp2
  all_goals go_ret
  all_goals exact ⟨rfl, rfl⟩
theorem PFlush_nil (w : World) : Calls Try.prog 14 #[.pointer none] w fun e w' => e = .returned (.slice none 0 0) ∧ w' = w := by
  go_enter Try.func14, Try.ntmps14
  go_wp2
  all_goals go_ret
  all_goals exact ⟨rfl, rfl⟩
set_option maxRecDepth 100000 in
set_option maxHeartbeats 4000000 in
theorem PFeed_nil (v : Value) (w : World) : Calls Try.prog 9 #[.pointer none, v] w fun e w' => e = .returned (.slice none 0 0) ∧ w' = w := by
  go_enter Try.func9, Try.ntmps9
  go_wp2
  refine wp_scope_same (by intro _ _ _ h; exact h) ?_
  go_wp2
  all_goals go_ret
  all_goals exact ⟨rfl, rfl⟩
theorem PCopy_nil (w : World) : Calls Try.prog 7 #[.pointer none] w fun e w' => e = .returned (.pointer none) ∧ w' = w := by
  go_enter Try.func7, Try.ntmps7
  go_wp2
  all_goals go_ret
  all_goals exact ⟨rfl, rfl⟩
set_option maxRecDepth 100000 in
set_option maxHeartbeats 4000000 in
theorem PCopy_any (F : PW w W g p nv) (hn : p.n.length ≤ 1000000) :
    Calls Try.prog 7 #[.pointer (some ⟨g, 0, none⟩)] W fun e w' => e = .returned (.pointer (some ⟨W.heap.size, 0, none⟩)) ∧ ∃ nv1, PW w w' W.heap.size p nv1 ∧ Below W.heap.size W w' ∧ (∀ k, nv1.ownBlock = some k → W.heap.size < k) := by
  obtain ⟨x0, x1, x2, hx, hh⟩ := F.blk
  have hc0 : W.cell? ⟨g, 0, none⟩ = some (.int .u8 x0) := (blk_cell hx 0).trans rfl
  have hc1 : W.cell? ⟨g, 1, none⟩ = some (.int .u8 x1) := (blk_cell hx 1).trans rfl
  have hc2 : W.cell? ⟨g, 2, none⟩ = some (.int .u8 x2) := (blk_cell hx 2).trans rfl
  have hc3 : W.cell? ⟨g, 3, none⟩ = some (.int .i64 p.h.length) := (blk_cell hx 3).trans rfl
  have hc4 : W.cell? ⟨g, 4, none⟩ = some (.int .i64 p.st) := (blk_cell hx 4).trans rfl
  have hc5 : W.cell? ⟨g, 5, none⟩ = some nv := (blk_cell hx 5).trans rfl
  obtain ⟨A, c, rfl, hcn, hC⟩ := Kd.R_reads F.rn
  have hO : ∃ o : Obj, o = .cells #[.int .u8 x0, .int .u8 x1, .int .u8 x2, .int .i64 p.h.length, .int .i64 p.st, .slice A p.n.length c] 28 := ⟨_, rfl⟩
  have hx' := blk_alloc hx (.cells #[.int .u8 x0, .int .u8 x1, .int .u8 x2, .int .i64 p.h.length, .int .i64 p.st, .slice A p.n.length c] 28)
  have hca := (blk_cell hx' 5).trans (rfl : _ = some (Value.slice A p.n.length c))
  have HF := Aside0.mk F
  have HH := Aside0.mk hh
  have HC := Aside0.mk (And.intro hC hn)
  have HN := Aside0.mk (blk_new W (.cells #[.int .u8 x0, .int .u8 x1, .int .u8 x2, .int .i64 p.h.length, .int .i64 p.st, .slice A p.n.length c] 28))
  clear F hx hC hn hcn hh hO hx'
  go_enter Try.func7, Try.ntmps7
  go_wp2_with (first | (go_at_call 21; go_must (refine (Clone_int A c p.n _ (Kd.C_below HC.out.1 (below_alloc (Below.refl _ _) _)) HC.out.2).mono ?_); rintro e w1 ⟨v1, rfl, hR1, hb1⟩; have hb2 := hb1; obtain ⟨A1, c1, rfl⟩ := Kd.R_slice hR1; have hy := blk_below HN.out hb1; have hy5 : w1.cell? ⟨W.heap.size, 5, none⟩ = some (.slice A p.n.length c) := (blk_cell hy 5).trans rfl; have hyf := blk_frozen hy 5; have H1 := Aside0.mk (And.intro hy (And.intro hR1 hb2)); clear hR1 hb1 hb2 hy))
  all_goals go_ret
  have hsz : (W.alloc (.cells #[.int .u8 x0, .int .u8 x1, .int .u8 x2, .int .i64 p.h.length, .int .i64 p.st, .slice A p.n.length c] 28)).heap.size = W.heap.size + 1 := by show (W.heap.push _).size = _; simp
  have hwW : w.heap.size ≤ W.heap.size := HF.out.st.hb.size
  have hbb : Below W.heap.size W w1 := below_step (below_alloc (Below.refl _ _) _) H1.out.2.2
  have hr : Kd.R (Kd.int .i64) 3 w1 (W.heap.size + 1) (fun _ => True) (.slice A1 p.n.length c1) p.n := by have := H1.out.2.1; rw [hsz] at this; exact this
  all_goals refine ⟨rfl, .slice A1 p.n.length c1, ⟨⟨(below_then HF.out.st.hb HF.out.st.hb.size hbb).setCell hwW _, hwW, HF.out.st.l3, x0, x1, x2, by simpa using blk_set H1.out.1 5 (.slice A1 p.n.length c1), HH.out⟩, Kd.R_set (Kd.R_lower hr (by omega)) H1.out.1 (by decide) 5 _⟩, hbb.setCell (Nat.le_refl _) _, fun k hk => by have := Kd.R_base hr k hk; omega⟩
end
end Go.Proofs.Ytlllbaieidbcdaa.Str
