/- parse.Parser: Feed. -/
import Derived.Test.YtlllbaieidbcdaaPaF
namespace Go.Proofs.Ytlllbaieidbcdaa.Str
open Go.RowKit Go.Proofs.Ytlllbaieidbcdaa Go.Proofs.Ytlllbaieidbcdaa.PParseEvents Go.Proofs.YtlllbaieidbcdaaW.PrintWords Go.Proofs.YtlllbaieidbcdaaW.PrintLast Go.Proofs.YtlllbaieidbcdaaW.PrintMore
set_option linter.unusedVariables false
set_option linter.unusedSimpArgs false
theorem wp_scope_same {P : Program} {a : Act} {w : World} {Q : Exit → Act → World → Prop} {c : Code} (hQ : ∀ l a w, Q (.goto l) a w → False) (h : c.wp P Q a w) : (Code.scope c).wp P Q a w := by
  intro b k cs
  obtain ⟨e, a₁, w₁, hq, harr⟩ := h b (.inScope c :: k) cs
  cases e with
  | normal => exact ⟨.normal, a₁, w₁, hq, .head step_scope (Steps.trans harr (.one step_inScope))⟩
  | exit id => exact ⟨.exit id, a₁, w₁, hq, fun k' hk => .head step_scope (harr k' (by simp [exitTo, hk]))⟩
  | goto l' => exact absurd hq (fun h => hQ _ _ _ h)
  | ret => exact ⟨_, a₁, w₁, hq, .of_steps (.one step_scope) harr⟩
  | panic ch => exact ⟨_, a₁, w₁, hq, .of_steps (.one step_scope) harr⟩
  | outgrown => exact ⟨_, a₁, w₁, hq, .of_steps (.one step_scope) harr⟩
theorem FS.cells {w W0 W : World} {g go : Nat} {nv0 nv vo : Value} {p : PP} {out : List Evt} (F : FS w W0 g go nv0 p nv vo out W) : W.cell? ⟨g, 4, none⟩ = some (.int .i64 p.st) ∧ W.cell? ⟨g, 5, none⟩ = some nv ∧ W.frozen? ⟨g, 4, none⟩ = false ∧ W.frozen? ⟨g, 5, none⟩ = false ∧ W.cell? ⟨go, 0, none⟩ = some vo := by
  obtain ⟨x0, x1, x2, hx, -⟩ := F.blk
  exact ⟨(blk_cell hx 4).trans rfl, (blk_cell hx 5).trans rfl, blk_frozen hx 4, blk_frozen hx 5, (blk_cell F.oc 0).trans rfl⟩
/-- The numbers are none. -/
theorem FS.none_ {w W0 W : World} {g go : Nat} {nv0 nv vo : Value} {p : PP} {out : List Evt} (F : FS w W0 g go nv0 p nv vo out W) : FS w W0 g go nv0 ⟨p.st, [], p.h⟩ (.slice none 0 0) vo out (W.setCell ⟨g, 5, none⟩ (.slice none 0 0)) :=
  F.nums (Kd.R_nil _ _ _ _ _) F.st.hb (World.grownBy.refl W _) (.inr (.inl rfl))
theorem flush_r (h : List Int) : prV (if h = [] then [] else [65533]) = flushV h := by unfold flushV prV; split <;> rfl
theorem flush_rl (h : List Int) : (if h = [] then ([] : List Int) else [65533]).length ≤ 1 := by split <;> simp
set_option maxRecDepth 100000 in
set_option maxHeartbeats 8000000 in
theorem PFeed_any (w W : World) (g : Nat) (p : PP) (nv : Value) (m : Nat) (A : Option Addr) (c : Nat) (b : List Int) (hS : StS p.st nv w W g p.h) (hN : Kd.R (Kd.int .i64) 3 W w.heap.size (fun _ => True) nv p.n) (hp : p.ok m) (hm : m + b.length ≤ 10000)
    (hC : Kd.F (Kd.int .u8) W (fun k => k ≠ g ∧ some k ≠ nv.ownBlock) A b.length b) (h8 : In8u b) :
    Calls Try.prog 9 #[.pointer (some ⟨g, 0, none⟩), .slice A b.length c] W fun e w' => ∃ nv1 vo, e = .returned vo ∧ FS w W g W.heap.size nv (feedV p b).1 nv1 vo (feedV p b).2 w' := by
  obtain ⟨y0, y1, y2, hx, -⟩ := hS.hx
  have hgW : g < W.heap.size := blk_lt hx
  have hF0 : FS w W g W.heap.size nv p nv (.slice none 0 0) [] (W.alloc (.cells #[.slice none 0 0] 38)) := by
    obtain ⟨x0, x1, x2, hx, hh⟩ := hS.hx
    exact ⟨⟨below_alloc hS.hb _, hS.ge, hS.l3, x0, x1, x2, blk_alloc hx _, hh⟩, Kd.R_alloc hN _, (Kept.refl _ _).alloc _, fun k hk => .inl hk, fun k hk => Kd.R_lt hN k hk, hgW, rfl, blk_new _ _, Kd.N_nil _ _ _ _ _⟩
  have HF0 := Aside0.mk hF0
  have HP := Aside0.mk hp
  have HC := Aside0.mk hC
  have H8 := Aside0.mk h8
  have HM := Aside0.mk hm
  clear hS hN hp hC h8 hF0 hx hgW hm
  go_enter Try.func9, Try.ntmps9
  go_wp2
  refine wp_scope_same (by intro _ _ _ h; exact h) ?_
  go_wp2
  refine wp_label ?_
  go_wp2
  go_loopg [15] (b.length + 1) (fun kq v15 w' => ∃ (i : Nat) (nv1 vo1 : Value), v15 = .int .i64 i ∧ Aside0 (kq + i = b.length + 1 ∧ i ≤ b.length) ∧ Aside0 (FS w W g W.heap.size nv (feedV p (b.take i)).1 nv1 vo1 (feedV p (b.take i)).2 w'))
  case atStart => exact ⟨0, nv, _, rfl, ⟨by omega, by omega⟩, ⟨by rw [List.take_zero]; exact HF0.out⟩⟩
  case round =>
    obtain ⟨i, nv1, vo1, rfl, HK, HFi⟩ := hrel
    have hok := (feed_ok (b.take i) HP.out (fun x hx => H8.out x (List.mem_of_mem_take hx)))
    have hfl := feed_len (b.take i) HP.out (fun x hx => H8.out x (List.mem_of_mem_take hx))
    have hnext : ∀ x, b.take (i + 1) = b.take i ++ [x] → feedV p (b.take (i + 1)) = ((stepV (feedV p (b.take i)).1 x).1, (feedV p (b.take i)).2 ++ (stepV (feedV p (b.take i)).1 x).2) := fun x hx => by rw [hx, feed_snoc]
    obtain ⟨⟨⟨st, n, h⟩, O⟩, hpo⟩ : ∃ q, feedV p (b.take i) = q := ⟨_, rfl⟩
    rw [hpo] at hok hfl HFi hnext
    dsimp only at hok hfl HFi hnext
    rw [List.length_take] at hok hfl
    have HF := HFi
    have HOK := Aside0.mk hok
    have HOL := Aside0.mk (show O.length ≤ 40000 by have := HM.out; omega)
    obtain ⟨hc4, hc5, hf4, hf5, hco⟩ := HFi.out.cells
    dsimp only at hc4
    clear HFi
    by_cases hi : i < b.length
    case neg =>
      have hie : i = b.length := by have := HK.out; omega
      have hT : decide ((i : Int) < (b.length : Int)) = false := decide_eq_false (by omega)
      have HE := Aside0.mk (show feedV p b = (⟨st, n, h⟩, O) by rw [← hpo, hie, List.take_of_length_le (Nat.le_refl _)])
      clear hnext hok hfl hpo hie
      go_wp2
      all_goals go_ret
      all_goals exact ⟨nv1, vo1, rfl, by rw [HE.out]; exact HF.out⟩
    case pos =>
      have hT : decide ((i : Int) < (b.length : Int)) = true := decide_eq_true (by omega)
      have hCi := Kd.F_now (Kd.F_kept HC.out HF.out.kp (fun k hk h => h.elim hk.1 hk.2))
      obtain ⟨ad, rfl, hcell⟩ := Kd.at_int hCi (i : Int) (by omega) (by omega)
      rw [Int.toNat_natCast] at hcell
      have hx8 := H8.out _ (rd_in hi)
      have hbl : b.length ≤ 10000 := by have := HM.out; omega
      have htk : b.take (i + 1) = b.take i ++ [rd b (i : Int)] := by
        rw [List.take_add_one]
        simp [rd, List.getD_eq_getElem?_getD, hi]
      have hnx := hnext _ htk
      obtain ⟨x, hx⟩ : ∃ x, rd b (i : Int) = x := ⟨_, rfl⟩
      rw [hx] at hcell hx8 hnx
      clear hnext hok hfl hpo hCi htk hx
      obtain ⟨r, hr⟩ : ∃ r, (if h = [] then ([] : List Int) else [65533]) = r := ⟨_, rfl⟩
      have HFV := Aside0.mk (show flushV h = prV r by rw [← flush_r, hr])
      have HRL := Aside0.mk (show r.length ≤ 1 by rw [← hr]; exact flush_rl h)
      have HR := Aside0.mk hr
      have hw32 : IntKind.i32.wrap x = x := by rw [i32_w, w32 (by omega) (by omega)]
      have HX8 := Aside0.mk hx8
      clear hr
      by_cases cA : x < 32 ∨ x = 127
      · by_cases c27 : x = 27
        ·
          subst c27
          have HNX := Aside0.mk (show feedV p (b.take (i + 1)) = (⟨1, [], []⟩, O ++ prV r) by rw [hnx, show stepV ⟨st, n, h⟩ 27 = (⟨1, [], []⟩, prV r) from by unfold stepV; rw [if_pos cA, if_pos rfl, HFV.out]])
          clear hnx
          go_wp2_with (first | (go_at_call 24; go_must (refine (FS_flush HF.out HR.out).mono ?_); rintro e w1 ⟨A1, c1, rfl, hc1, hC1, hF1⟩; have H1 := Aside0.mk (And.intro hc1 (And.intro hC1 hF1)); clear hc1 hC1 hF1) | (go_at_call 23; go_must (refine (FS_printed H1.out.2.2 A1 c1 r H1.out.2.1 H1.out.1 (by have := HRL.out; omega)).mono ?_); rintro e w2 ⟨A2, c2, rfl, hE2, hF2⟩; have H2 := Aside0.mk (And.intro hE2 hF2); clear hE2 hF2) | (go_at_call 22; go_must (refine (FS_tell H2.out.2 A2 c2 (prV r) _ H2.out.1 H1.out.2.2.freshOk (by have := HOL.out; have := HRL.out; rw [prV, List.length_map]; omega)).mono ?_); rintro e w3 ⟨rfl, vo3, hF3⟩; have HF3 := Aside0.mk hF3; obtain ⟨hc34, hc35, hf34, hf35, hc3o⟩ := hF3.cells; clear hF3))
          go_roundg (gk - 1)
          case measure => have := HK.out; omega
          case rel => exact ⟨i + 1, _, _, by go_num, ⟨by have := HK.out; omega, by omega⟩, ⟨by rw [HNX.out]; exact (HF3.out.state 1).none_⟩⟩
        have T27 : (x == 27) = false := by rw [beq_eq_false_iff_ne]; exact c27
        by_cases c24 : x = 24
        ·
          subst c24
          have HNX := Aside0.mk (show feedV p (b.take (i + 1)) = (⟨0, n, []⟩, O ++ (prV r ++ [⟨2, 24, []⟩])) by rw [hnx, show stepV ⟨st, n, h⟩ 24 = (⟨0, n, []⟩, (prV r ++ [⟨2, 24, []⟩])) from by unfold stepV; rw [if_pos cA, if_neg c27, if_pos (by simp), HFV.out]])
          clear hnx
          go_wp2_with (first | (go_at_call 24; go_must (refine (FS_flush HF.out HR.out).mono ?_); rintro e w1 ⟨A1, c1, rfl, hc1, hC1, hF1⟩; have H1 := Aside0.mk (And.intro hc1 (And.intro hC1 hF1)); clear hc1 hC1 hF1) | (go_at_call 23; go_must (refine (FS_printed H1.out.2.2 A1 c1 r H1.out.2.1 H1.out.1 (by have := HRL.out; omega)).mono ?_); rintro e w2 ⟨A2, c2, rfl, hE2, hF2⟩; have H2 := Aside0.mk (And.intro hE2 hF2); clear hE2 hF2) | (go_at_call 22; (with_reducible refine (FS_tell H2.out.2 A2 c2 (prV r) _ H2.out.1 H1.out.2.2.freshOk (by have := HOL.out; have := HRL.out; rw [prV, List.length_map]; omega)).mono ?_); rintro e w3 ⟨rfl, vo3, hF3⟩; have HF3 := Aside0.mk hF3; obtain ⟨hc34, hc35, hf34, hf35, hc3o⟩ := hF3.cells; clear hF3) | (go_at_call 22; go_must (refine (FS_tell (HF3.out.below (below_alloc (Below.refl _ _) _)) _ _ _ _ (evLit w3 2 _ none 0 [] (fun _ => False) (Kd.F_nil _ _ _) (by simp)) (fun k hk => hk.elim (fun h => HF3.out.freshOk k (by omega)) (fun h => h.1.elim)) (by have := HOL.out; have := HRL.out; rw [List.length_append, prV, List.length_map, List.length_singleton]; omega)).mono ?_); rintro e w4 ⟨rfl, vo4, hF4⟩; have HF4 := Aside0.mk hF4; obtain ⟨hc44, hc45, hf44, hf45, hc4o⟩ := hF4.cells; clear hF4))
          go_roundg (gk - 1)
          case measure => have := HK.out; omega
          case rel => exact ⟨i + 1, _, _, by go_num, ⟨by have := HK.out; omega, by omega⟩, ⟨by rw [HNX.out]; exact (by rw [← List.append_assoc]; exact HF4.out.state 0)⟩⟩
        have T24 : (x == 24) = false := by rw [beq_eq_false_iff_ne]; exact c24
        by_cases c26 : x = 26
        ·
          subst c26
          have HNX := Aside0.mk (show feedV p (b.take (i + 1)) = (⟨0, n, []⟩, O ++ (prV r ++ [⟨2, 26, []⟩])) by rw [hnx, show stepV ⟨st, n, h⟩ 26 = (⟨0, n, []⟩, (prV r ++ [⟨2, 26, []⟩])) from by unfold stepV; rw [if_pos cA, if_neg c27, if_pos (by simp), HFV.out]])
          clear hnx
          go_wp2_with (first | (go_at_call 24; go_must (refine (FS_flush HF.out HR.out).mono ?_); rintro e w1 ⟨A1, c1, rfl, hc1, hC1, hF1⟩; have H1 := Aside0.mk (And.intro hc1 (And.intro hC1 hF1)); clear hc1 hC1 hF1) | (go_at_call 23; go_must (refine (FS_printed H1.out.2.2 A1 c1 r H1.out.2.1 H1.out.1 (by have := HRL.out; omega)).mono ?_); rintro e w2 ⟨A2, c2, rfl, hE2, hF2⟩; have H2 := Aside0.mk (And.intro hE2 hF2); clear hE2 hF2) | (go_at_call 22; (with_reducible refine (FS_tell H2.out.2 A2 c2 (prV r) _ H2.out.1 H1.out.2.2.freshOk (by have := HOL.out; have := HRL.out; rw [prV, List.length_map]; omega)).mono ?_); rintro e w3 ⟨rfl, vo3, hF3⟩; have HF3 := Aside0.mk hF3; obtain ⟨hc34, hc35, hf34, hf35, hc3o⟩ := hF3.cells; clear hF3) | (go_at_call 22; go_must (refine (FS_tell (HF3.out.below (below_alloc (Below.refl _ _) _)) _ _ _ _ (evLit w3 2 _ none 0 [] (fun _ => False) (Kd.F_nil _ _ _) (by simp)) (fun k hk => hk.elim (fun h => HF3.out.freshOk k (by omega)) (fun h => h.1.elim)) (by have := HOL.out; have := HRL.out; rw [List.length_append, prV, List.length_map, List.length_singleton]; omega)).mono ?_); rintro e w4 ⟨rfl, vo4, hF4⟩; have HF4 := Aside0.mk hF4; obtain ⟨hc44, hc45, hf44, hf45, hc4o⟩ := hF4.cells; clear hF4))
          go_roundg (gk - 1)
          case measure => have := HK.out; omega
          case rel => exact ⟨i + 1, _, _, by go_num, ⟨by have := HK.out; omega, by omega⟩, ⟨by rw [HNX.out]; exact (by rw [← List.append_assoc]; exact HF4.out.state 0)⟩⟩
        have T26 : (x == 26) = false := by rw [beq_eq_false_iff_ne]; exact c26
        by_cases c32 : x < 32
        ·
          have T32 : decide (x < 32) = true := decide_eq_true c32
          have HNX := Aside0.mk (show feedV p (b.take (i + 1)) = (⟨st, n, []⟩, O ++ (prV r ++ [⟨2, x, []⟩])) by rw [hnx, show stepV ⟨st, n, h⟩ x = (⟨st, n, []⟩, (prV r ++ [⟨2, x, []⟩])) from by unfold stepV; rw [if_pos cA, if_neg c27, if_neg (fun h => h.elim c24 c26), HFV.out]])
          clear hnx
          go_wp2_with (first | (go_at_call 24; go_must (refine (FS_flush HF.out HR.out).mono ?_); rintro e w1 ⟨A1, c1, rfl, hc1, hC1, hF1⟩; have H1 := Aside0.mk (And.intro hc1 (And.intro hC1 hF1)); clear hc1 hC1 hF1) | (go_at_call 23; go_must (refine (FS_printed H1.out.2.2 A1 c1 r H1.out.2.1 H1.out.1 (by have := HRL.out; omega)).mono ?_); rintro e w2 ⟨A2, c2, rfl, hE2, hF2⟩; have H2 := Aside0.mk (And.intro hE2 hF2); clear hE2 hF2) | (go_at_call 22; (with_reducible refine (FS_tell H2.out.2 A2 c2 (prV r) _ H2.out.1 H1.out.2.2.freshOk (by have := HOL.out; have := HRL.out; rw [prV, List.length_map]; omega)).mono ?_); rintro e w3 ⟨rfl, vo3, hF3⟩; have HF3 := Aside0.mk hF3; obtain ⟨hc34, hc35, hf34, hf35, hc3o⟩ := hF3.cells; clear hF3) | (go_at_call 22; go_must (refine (FS_tell (HF3.out.below (below_alloc (Below.refl _ _) _)) _ _ _ _ (evLit w3 2 _ none 0 [] (fun _ => False) (Kd.F_nil _ _ _) (by simp)) (fun k hk => hk.elim (fun h => HF3.out.freshOk k (by omega)) (fun h => h.1.elim)) (by have := HOL.out; have := HRL.out; rw [List.length_append, prV, List.length_map, List.length_singleton]; omega)).mono ?_); rintro e w4 ⟨rfl, vo4, hF4⟩; have HF4 := Aside0.mk hF4; obtain ⟨hc44, hc45, hf44, hf45, hc4o⟩ := hF4.cells; clear hF4))
          go_roundg (gk - 1)
          case measure => have := HK.out; omega
          case rel => exact ⟨i + 1, _, _, by go_num, ⟨by have := HK.out; omega, by omega⟩, ⟨by rw [HNX.out]; exact (by rw [← List.append_assoc]; exact HF4.out)⟩⟩
        ·
          obtain rfl : x = 127 := cA.resolve_left c32
          have HNX := Aside0.mk (show feedV p (b.take (i + 1)) = (⟨st, n, []⟩, O ++ (prV r ++ [⟨2, 127, []⟩])) by rw [hnx, show stepV ⟨st, n, h⟩ 127 = (⟨st, n, []⟩, (prV r ++ [⟨2, 127, []⟩])) from by unfold stepV; rw [if_pos cA, if_neg c27, if_neg (fun h => h.elim c24 c26), HFV.out]])
          clear hnx
          go_wp2_with (first | (go_at_call 24; go_must (refine (FS_flush HF.out HR.out).mono ?_); rintro e w1 ⟨A1, c1, rfl, hc1, hC1, hF1⟩; have H1 := Aside0.mk (And.intro hc1 (And.intro hC1 hF1)); clear hc1 hC1 hF1) | (go_at_call 23; go_must (refine (FS_printed H1.out.2.2 A1 c1 r H1.out.2.1 H1.out.1 (by have := HRL.out; omega)).mono ?_); rintro e w2 ⟨A2, c2, rfl, hE2, hF2⟩; have H2 := Aside0.mk (And.intro hE2 hF2); clear hE2 hF2) | (go_at_call 22; (with_reducible refine (FS_tell H2.out.2 A2 c2 (prV r) _ H2.out.1 H1.out.2.2.freshOk (by have := HOL.out; have := HRL.out; rw [prV, List.length_map]; omega)).mono ?_); rintro e w3 ⟨rfl, vo3, hF3⟩; have HF3 := Aside0.mk hF3; obtain ⟨hc34, hc35, hf34, hf35, hc3o⟩ := hF3.cells; clear hF3) | (go_at_call 22; go_must (refine (FS_tell (HF3.out.below (below_alloc (Below.refl _ _) _)) _ _ _ _ (evLit w3 2 _ none 0 [] (fun _ => False) (Kd.F_nil _ _ _) (by simp)) (fun k hk => hk.elim (fun h => HF3.out.freshOk k (by omega)) (fun h => h.1.elim)) (by have := HOL.out; have := HRL.out; rw [List.length_append, prV, List.length_map, List.length_singleton]; omega)).mono ?_); rintro e w4 ⟨rfl, vo4, hF4⟩; have HF4 := Aside0.mk hF4; obtain ⟨hc44, hc45, hf44, hf45, hc4o⟩ := hF4.cells; clear hF4))
          go_roundg (gk - 1)
          case measure => have := HK.out; omega
          case rel => exact ⟨i + 1, _, _, by go_num, ⟨by have := HK.out; omega, by omega⟩, ⟨by rw [HNX.out]; exact (by rw [← List.append_assoc]; exact HF4.out)⟩⟩
      have T32 : decide (x < 32) = false := decide_eq_false (fun h => cA (.inl h))
      have T127 : (x == 127) = false := by rw [beq_eq_false_iff_ne]; exact fun h => cA (.inr h)
      by_cases cB : 128 ≤ x ∨ st = 0
      · obtain ⟨⟨sc, hl⟩, hcut⟩ : ∃ q, cutZ (h ++ [x]) = q := ⟨_, rfl⟩
        have hscl := cutZ_len (h ++ [x])
        rw [hcut] at hscl
        have hscl : sc.length ≤ 4 := by have := HOK.out.l3; dsimp only at hscl this; rw [List.length_append, List.length_singleton] at hscl; omega
        have HRL := Aside0.mk hscl
        have HCU := Aside0.mk hcut
        clear hscl hcut
        by_cases c128 : 128 ≤ x
        ·
          have T128 : decide (x ≥ 128) = true := decide_eq_true c128
          have HNX := Aside0.mk (show feedV p (b.take (i + 1)) = (⟨0, n, hl⟩, O ++ prV sc) by rw [hnx, show stepV ⟨st, n, h⟩ x = (⟨0, n, hl⟩, prV sc) from by unfold stepV; rw [if_neg cA, if_pos cB]; simp only [HCU.out]])
          clear hnx
          go_wp2_with (first | (go_at_call 25; go_must (refine (FS_sfeed ((HF.out.state 0).below (below_alloc (Below.refl _ _) _)) _ _ x HX8.out HOK.out.h8 (Kd.R_reads' (R_lit_at .u8 (W := wr.setCell ⟨g, 4, none⟩ (.int .i64 0)) 0 5 _ [x] (by simp) (by simp) (by simp))).2.2 (by simp) HCU.out).mono ?_); rintro e w1 ⟨A1, c1, rfl, hc1, hC1, hF1⟩; have H1 := Aside0.mk (And.intro hc1 (And.intro hC1 hF1)); clear hc1 hC1 hF1) | (go_at_call 23; go_must (refine (FS_printed H1.out.2.2 A1 c1 sc H1.out.2.1 H1.out.1 (by have := HRL.out; omega)).mono ?_); rintro e w2 ⟨A2, c2, rfl, hE2, hF2⟩; have H2 := Aside0.mk (And.intro hE2 hF2); clear hE2 hF2) | (go_at_call 22; go_must (refine (FS_tell H2.out.2 A2 c2 (prV sc) _ H2.out.1 H1.out.2.2.freshOk (by have := HOL.out; have := HRL.out; rw [prV, List.length_map]; omega)).mono ?_); rintro e w3 ⟨rfl, vo3, hF3⟩; have HF3 := Aside0.mk hF3; obtain ⟨hc34, hc35, hf34, hf35, hc3o⟩ := hF3.cells; clear hF3))
          go_roundg (gk - 1)
          case measure => have := HK.out; omega
          case rel => exact ⟨i + 1, _, _, by go_num, ⟨by have := HK.out; omega, by omega⟩, ⟨by rw [HNX.out]; exact HF3.out⟩⟩
        ·
          have T128 : decide (x ≥ 128) = false := decide_eq_false c128
          obtain rfl : st = 0 := cB.resolve_left c128
          have HNX := Aside0.mk (show feedV p (b.take (i + 1)) = (⟨0, n, hl⟩, O ++ prV sc) by rw [hnx, show stepV ⟨0, n, h⟩ x = (⟨0, n, hl⟩, prV sc) from by unfold stepV; rw [if_neg cA, if_pos cB]; simp only [HCU.out]])
          clear hnx
          go_wp2_with (first | (go_at_call 25; go_must (refine (FS_sfeed ((HF.out.state 0).below (below_alloc (Below.refl _ _) _)) _ _ x HX8.out HOK.out.h8 (Kd.R_reads' (R_lit_at .u8 (W := wr.setCell ⟨g, 4, none⟩ (.int .i64 0)) 0 5 _ [x] (by simp) (by simp) (by simp))).2.2 (by simp) HCU.out).mono ?_); rintro e w1 ⟨A1, c1, rfl, hc1, hC1, hF1⟩; have H1 := Aside0.mk (And.intro hc1 (And.intro hC1 hF1)); clear hc1 hC1 hF1) | (go_at_call 23; go_must (refine (FS_printed H1.out.2.2 A1 c1 sc H1.out.2.1 H1.out.1 (by have := HRL.out; omega)).mono ?_); rintro e w2 ⟨A2, c2, rfl, hE2, hF2⟩; have H2 := Aside0.mk (And.intro hE2 hF2); clear hE2 hF2) | (go_at_call 22; go_must (refine (FS_tell H2.out.2 A2 c2 (prV sc) _ H2.out.1 H1.out.2.2.freshOk (by have := HOL.out; have := HRL.out; rw [prV, List.length_map]; omega)).mono ?_); rintro e w3 ⟨rfl, vo3, hF3⟩; have HF3 := Aside0.mk hF3; obtain ⟨hc34, hc35, hf34, hf35, hc3o⟩ := hF3.cells; clear hF3))
          go_roundg (gk - 1)
          case measure => have := HK.out; omega
          case rel => exact ⟨i + 1, _, _, by go_num, ⟨by have := HK.out; omega, by omega⟩, ⟨by rw [HNX.out]; exact HF3.out⟩⟩
      have T128 : decide (x ≥ 128) = false := decide_eq_false (fun h => cB (.inl h))
      have T0 : (st == 0) = false := by rw [beq_eq_false_iff_ne]; exact fun h => cB (.inr h)
      by_cases c48 : x < 48
      · have T48 : decide (x < 48) = true := decide_eq_true c48
        by_cases s1 : st = 1
        · subst s1
          by_cases c91 : x = 91
          · omega
          ·
            have T91 : (x == 91) = false := by rw [beq_eq_false_iff_ne]; exact c91
            have HNX := Aside0.mk (show feedV p (b.take (i + 1)) = (⟨2, n, h⟩, O) by rw [hnx, show stepV ⟨1, n, h⟩ x = (⟨2, n, h⟩, []) from by unfold stepV; rw [if_neg cA, if_neg cB, if_pos (.inl rfl)]; simp [c91, c48]]; simp)
            clear hnx
            go_wp2
            go_roundg (gk - 1)
            case measure => have := HK.out; omega
            case rel => exact ⟨i + 1, _, _, by go_num, ⟨by have := HK.out; omega, by omega⟩, ⟨by rw [HNX.out]; exact HF.out.state 2⟩⟩
        by_cases s2 : st = 2
        ·
          subst s2
          have HNX := Aside0.mk (show feedV p (b.take (i + 1)) = (⟨2, n, h⟩, O) by rw [hnx, show stepV ⟨2, n, h⟩ x = (⟨2, n, h⟩, []) from by unfold stepV; rw [if_neg cA, if_neg cB, if_pos (.inr rfl)]; simp [c48]]; simp)
          clear hnx
          go_wp2
          go_roundg (gk - 1)
          case measure => have := HK.out; omega
          case rel => exact ⟨i + 1, _, _, by go_num, ⟨by have := HK.out; omega, by omega⟩, ⟨by rw [HNX.out]; exact HF.out.state 2⟩⟩
        by_cases s3 : st = 3
        · subst s3
          by_cases c64 : 64 ≤ x
          · omega
          ·
            obtain ⟨s', n', hcv⟩ : ∃ s' n', cntV n x = (false, s', n') := by unfold cntV; rw [if_neg c64]; split; exact ⟨_, _, rfl⟩; split; exact ⟨_, _, rfl⟩; exact ⟨_, _, rfl⟩
            have HCV := Aside0.mk hcv
            have HNX := Aside0.mk (show feedV p (b.take (i + 1)) = (⟨s', n', h⟩, O) by rw [hnx, show stepV ⟨3, n, h⟩ x = (⟨s', n', h⟩, []) from by unfold stepV; rw [if_neg cA, if_neg cB, if_neg (by simp), if_pos rfl]; simp [hcv]]; simp)
            clear hnx
            go_wp2_with (first | (go_at_call 26; go_must (refine (FS_count HF.out x HX8.out.1 HX8.out.2 rfl (by have := HOK.out.nl; have := HM.out; dsimp only at *; omega) HOK.out.nb).mono ?_); rintro e w1 ⟨rfl, nv2, hF1⟩; dsimp only at hF1; rw [HCV.out] at hF1; have HF1 := Aside0.mk hF1; rw [HCV.out]; clear hF1))
            go_roundg (gk - 1)
            case measure => have := HK.out; omega
            case rel => exact ⟨i + 1, _, _, by go_num, ⟨by have := HK.out; omega, by omega⟩, ⟨by rw [HNX.out]; exact HF1.out⟩⟩
        obtain rfl : st = 4 := by have := HOK.out.st0; have := HOK.out.st4; dsimp only at *; omega
        by_cases c64 : 64 ≤ x
        · omega
        ·
          have T64 : decide (x ≥ 64) = false := decide_eq_false c64
          have HNX := Aside0.mk (show feedV p (b.take (i + 1)) = (⟨4, n, h⟩, O) by rw [hnx, show stepV ⟨4, n, h⟩ x = (⟨4, n, h⟩, []) from by unfold stepV; rw [if_neg cA, if_neg cB, if_neg (by simp), if_neg (by simp)]; simp [c64]]; simp)
          clear hnx
          go_wp2
          go_roundg (gk - 1)
          case measure => have := HK.out; omega
          case rel => exact ⟨i + 1, _, _, by go_num, ⟨by have := HK.out; omega, by omega⟩, ⟨by rw [HNX.out]; exact HF.out⟩⟩
      · have T48 : decide (x < 48) = false := decide_eq_false c48
        by_cases s1 : st = 1
        · subst s1
          by_cases c91 : x = 91
          ·
            subst c91
            have HNX := Aside0.mk (show feedV p (b.take (i + 1)) = (⟨3, n, h⟩, O) by rw [hnx, show stepV ⟨1, n, h⟩ 91 = (⟨3, n, h⟩, []) from by unfold stepV; rw [if_neg cA, if_neg cB, if_pos (.inl rfl)]; simp]; simp)
            clear hnx
            go_wp2
            go_roundg (gk - 1)
            case measure => have := HK.out; omega
            case rel => exact ⟨i + 1, _, _, by go_num, ⟨by have := HK.out; omega, by omega⟩, ⟨by rw [HNX.out]; exact HF.out.state 3⟩⟩
          ·
            have T91 : (x == 91) = false := by rw [beq_eq_false_iff_ne]; exact c91
            have HNX := Aside0.mk (show feedV p (b.take (i + 1)) = (⟨0, n, h⟩, O) by rw [hnx, show stepV ⟨1, n, h⟩ x = (⟨0, n, h⟩, []) from by unfold stepV; rw [if_neg cA, if_neg cB, if_pos (.inl rfl)]; simp [c91, c48]]; simp)
            clear hnx
            go_wp2
            go_roundg (gk - 1)
            case measure => have := HK.out; omega
            case rel => exact ⟨i + 1, _, _, by go_num, ⟨by have := HK.out; omega, by omega⟩, ⟨by rw [HNX.out]; exact HF.out.state 0⟩⟩
        by_cases s2 : st = 2
        ·
          subst s2
          have HNX := Aside0.mk (show feedV p (b.take (i + 1)) = (⟨0, n, h⟩, O) by rw [hnx, show stepV ⟨2, n, h⟩ x = (⟨0, n, h⟩, []) from by unfold stepV; rw [if_neg cA, if_neg cB, if_pos (.inr rfl)]; simp [c48]]; simp)
          clear hnx
          go_wp2
          go_roundg (gk - 1)
          case measure => have := HK.out; omega
          case rel => exact ⟨i + 1, _, _, by go_num, ⟨by have := HK.out; omega, by omega⟩, ⟨by rw [HNX.out]; exact HF.out.state 0⟩⟩
        by_cases s3 : st = 3
        · subst s3
          by_cases c64 : 64 ≤ x
          ·
            have hcv : cntV n x = (true, 0, n) := by unfold cntV; rw [if_pos c64]
            have HCV := Aside0.mk hcv
            have HNX := Aside0.mk (show feedV p (b.take (i + 1)) = (⟨0, n, h⟩, O ++ [⟨3, x, n.take 8⟩]) by rw [hnx, show stepV ⟨3, n, h⟩ x = (⟨0, n, h⟩, [⟨3, x, n.take 8⟩]) from by unfold stepV; rw [if_neg cA, if_neg cB, if_neg (by simp), if_pos rfl]; simp [hcv]])
            clear hnx
            obtain ⟨T, hTe⟩ : ∃ T, n.take 8 = T := ⟨_, rfl⟩
            rw [hTe] at HNX
            obtain ⟨kk, hkk⟩ : ∃ kk : Nat, kk = min n.length 8 := ⟨_, rfl⟩
            have hTl : T.length = kk := by rw [← hTe, List.length_take]; omega
            have hmin1 : (if (8 : Int) < (n.length : Int) then (8 : Int) else (n.length : Int)) = (kk : Int) := by split <;> omega
            have hmin2 : min (n.length : Int) 8 = (kk : Int) := by omega
            have hnl := HOK.out.nl
            dsimp only at hnl
            have hkn : kk ≤ n.length ∧ kk ≤ 8 := by omega
            have hTk : n.take kk = T := by
              rw [← hTe]
              rcases Nat.lt_or_ge n.length 8 with h8' | h8'
              · rw [List.take_of_length_le (by omega), List.take_of_length_le (by omega)]
              · rw [show kk = 8 by omega]
            have HTE := Aside0.mk (And.intro hTe (And.intro hkk (And.intro hTk (And.intro hkn hTl))))
            clear hTe hkk hTk hnl hTl
            go_wp2_with (first | (go_at_call 26; go_must (refine (FS_count HF.out x HX8.out.1 HX8.out.2 rfl (by have := HOK.out.nl; have := HM.out; dsimp only at *; omega) HOK.out.nb).mono ?_); rintro e w1 ⟨rfl, nv2, hF1⟩; dsimp only at hF1; rw [HCV.out] at hF1; obtain ⟨A2, c2, rfl, hc2, hC2⟩ := Kd.R_reads hF1.rn; have hcu := cut_take (P := Try.prog) (Kd.int .i64) 26 3 .i64 Try.underlying26 info3p A2 c2 n (kk : Int) (by omega) (by have := HTE.out.2.2.2.1.1; omega) hc2; obtain ⟨hcut, hread, hlen⟩ := hcu; simp only [Int.toNat_natCast, HTE.out.2.2.1] at hcut hread hlen; have HCT := Aside0.mk (And.intro (hread w1 hC2) hlen); obtain ⟨hd4, hd5, -, -, -⟩ := hF1.cells; have HF1 := Aside0.mk hF1; rw [HCV.out]; clear hF1 hc2 hC2 hread hlen))
            refine start_ (n := 18) (S := fun w' => w'.cell? ⟨g, 5, none⟩ = some (.slice A2 n.length c2)) (ds := [14, 16, 17]) #[false, false, false, false, false, false, false, false, false, false, false, false, false, false, false, false, false, false] (by kernel_rfl) rfl rfl (hd5) (fun hHeld => ?_)
            refine pure_ (i := 0) (N := some 113) (v := ?_) (a' := ?_) #[true, false, false, false, false, false, false, false, false, false, false, false, false, false, false, false, false, false] rfl rfl (by kernel_rfl) (fun _ _ _ h => h) (Or.inl ⟨by rfl, ?_⟩) ?_ ?_
            rotate_left
            · intro w'
              go_simp
              with_reducible rfl
            rotate_left
            · simp only [Act.put, List.setIfInBounds_toArray, List.set_cons_zero, List.set_cons_succ, i64_w, i32_w]
              rfl
            refine pure_ (i := 1) (N := some 114) (v := ?_) (a' := ?_) #[true, true, false, false, false, false, false, false, false, false, false, false, false, false, false, false, false, false] rfl rfl (by kernel_rfl) (fun _ _ _ h => h) (Or.inl ⟨by rfl, ?_⟩) ?_ ?_
            rotate_left
            · intro w'
              go_simp
              with_reducible rfl
            rotate_left
            · simp only [Act.put, List.setIfInBounds_toArray, List.set_cons_zero, List.set_cons_succ, i64_w, i32_w]
              rfl
            refine pure_ (i := 2) (N := some 115) (v := ?_) (a' := ?_) #[true, true, true, false, false, false, false, false, false, false, false, false, false, false, false, false, false, false] rfl rfl (by kernel_rfl) (fun _ _ _ h => h) (Or.inl ⟨by rfl, ?_⟩) ?_ ?_
            rotate_left
            · intro w'
              go_simp
              with_reducible rfl
            rotate_left
            · simp only [Act.put, List.setIfInBounds_toArray, List.set_cons_zero, List.set_cons_succ, i64_w, i32_w]
              rfl
            refine pure_ (i := 3) (N := some 116) (v := ?_) (a' := ?_) #[true, true, true, true, false, false, false, false, false, false, false, false, false, false, false, false, false, false] rfl rfl (by kernel_rfl) (fun _ _ _ h => h) (Or.inl ⟨by rfl, ?_⟩) ?_ ?_
            rotate_left
            · intro w'
              go_simp
              with_reducible rfl
            rotate_left
            · simp only [Act.put, List.setIfInBounds_toArray, List.set_cons_zero, List.set_cons_succ, i64_w, i32_w]
              rfl
            refine pure_ (i := 4) (N := some 117) (v := ?_) (a' := ?_) #[true, true, true, true, true, false, false, false, false, false, false, false, false, false, false, false, false, false] rfl rfl (by kernel_rfl) (fun _ _ _ h => h) (Or.inl ⟨by rfl, ?_⟩) ?_ ?_
            rotate_left
            · intro w'
              go_simp
              with_reducible rfl
            rotate_left
            · simp only [Act.put, List.setIfInBounds_toArray, List.set_cons_zero, List.set_cons_succ, i64_w, i32_w]
              rfl
            refine pure_ (i := 5) (N := some 118) (v := ?_) (a' := ?_) #[true, true, true, true, true, true, false, false, false, false, false, false, false, false, false, false, false, false] rfl rfl (by kernel_rfl) (fun _ _ _ h => h) (Or.inl ⟨by rfl, ?_⟩) ?_ ?_
            rotate_left
            · intro w'
              go_simp
              with_reducible rfl
            rotate_left
            · simp only [Act.put, List.setIfInBounds_toArray, List.set_cons_zero, List.set_cons_succ, i64_w, i32_w]
              rfl
            refine pure_ (i := 7) (N := some 120) (v := ?_) (a' := ?_) #[true, true, true, true, true, true, false, true, false, false, false, false, false, false, false, false, false, false] rfl rfl (by kernel_rfl) (fun _ _ _ h => h) (Or.inl ⟨by rfl, ?_⟩) ?_ ?_
            rotate_left
            · intro w'
              go_simp
              with_reducible rfl
            rotate_left
            · simp only [Act.put, List.setIfInBounds_toArray, List.set_cons_zero, List.set_cons_succ, i64_w, i32_w]
              rfl
            refine pure_ (i := 8) (N := some 121) (v := ?_) (a' := ?_) #[true, true, true, true, true, true, false, true, true, false, false, false, false, false, false, false, false, false] rfl rfl (by kernel_rfl) (fun _ _ _ h => h) (Or.inl ⟨by rfl, ?_⟩) ?_ ?_
            rotate_left
            · intro w'
              go_simp
              with_reducible rfl
            rotate_left
            · simp only [Act.put, List.setIfInBounds_toArray, List.set_cons_zero, List.set_cons_succ, i64_w, i32_w]
              rfl
            refine pure_ (i := 9) (N := some 122) (v := ?_) (a' := ?_) #[true, true, true, true, true, true, false, true, true, true, false, false, false, false, false, false, false, false] rfl rfl (by kernel_rfl) (fun _ _ _ h => h) (Or.inl ⟨by rfl, ?_⟩) ?_ ?_
            rotate_left
            · intro w'
              go_simp
              with_reducible rfl
            rotate_left
            · simp only [Act.put, List.setIfInBounds_toArray, List.set_cons_zero, List.set_cons_succ, i64_w, i32_w]
              rfl
            refine take_ (i := 6) (N := some 119) (v := ?_) (a' := ?_) #[true, true, true, true, true, true, true, true, true, true, false, false, false, false, false, false, false, false] rfl rfl (by kernel_rfl) (fun _ _ _ h => h) (Or.inl ⟨by rfl, ?_⟩) hHeld ?_ ?_
            rotate_left
            · intro w' s0
              go_simp
              with_reducible rfl
            rotate_left
            · simp only [Act.put, List.setIfInBounds_toArray, List.set_cons_zero, List.set_cons_succ, i64_w, i32_w]
              rfl
            refine take_ (i := 10) (N := some 123) (v := ?_) (a' := ?_) #[true, true, true, true, true, true, true, true, true, true, true, false, false, false, false, false, false, false] rfl rfl (by kernel_rfl) (fun _ _ _ h => h) (Or.inl ⟨by rfl, ?_⟩) hHeld ?_ ?_
            rotate_left
            · intro w' s0
              go_simp
              with_reducible rfl
            rotate_left
            · simp only [Act.put, List.setIfInBounds_toArray, List.set_cons_zero, List.set_cons_succ, i64_w, i32_w]
              rfl
            refine pure_ (i := 11) (N := some 124) (v := ?_) (a' := ?_) #[true, true, true, true, true, true, true, true, true, true, true, true, false, false, false, false, false, false] rfl rfl (by kernel_rfl) (fun _ _ _ h => h) (Or.inl ⟨by rfl, ?_⟩) ?_ ?_
            rotate_left
            · intro w'
              go_simp
              with_reducible rfl
            rotate_left
            · simp only [Act.put, List.setIfInBounds_toArray, List.set_cons_zero, List.set_cons_succ, i64_w, i32_w]
              rfl
            refine pure_ (i := 12) (N := some 125) (v := ?_) (a' := ?_) #[true, true, true, true, true, true, true, true, true, true, true, true, true, false, false, false, false, false] rfl rfl (by kernel_rfl) (fun _ _ _ h => h) (Or.inl ⟨by rfl, ?_⟩) ?_ ?_
            rotate_left
            · intro w'
              go_simp
              with_reducible rfl
            rotate_left
            · simp only [Act.put, List.setIfInBounds_toArray, List.set_cons_zero, List.set_cons_succ, i64_w, i32_w]
              rfl
            refine pure_ (i := 13) (N := some 126) (v := ?_) (a' := ?_) #[true, true, true, true, true, true, true, true, true, true, true, true, true, true, false, false, false, false] rfl rfl (by kernel_rfl) (fun _ _ _ h => h) (Or.inl ⟨by rfl, ?_⟩) ?_ ?_
            rotate_left
            · intro w'
              go_simp
              with_reducible rfl
            rotate_left
            · simp only [Act.put, List.setIfInBounds_toArray, List.set_cons_zero, List.set_cons_succ, i64_w, i32_w]
              rfl
            refine last_ (i := 14) (N := some 127) #[true, true, true, true, true, true, true, true, true, true, true, true, true, true, true, false, false, false] rfl rfl (by kernel_rfl) (by decide) (fun K hK => ?_)
            refine goes_ Try.func21 (by kernel_rfl) rfl #[.slice A2 T.length c2] (by rfl) rfl rfl (by first | (simp only [List.map_toArray, List.map_cons, List.map_nil]; done) | (simp only [List.map_toArray, List.map_cons, List.map_nil]; rfl)) ?_
            with_reducible refine (Clone_int A2 c2 T _ (Kd.C_below HCT.out.1 (by repeat (first | exact Below.refl _ _ | apply below_alloc | apply pw_below_drewN | apply below_drew1 | (refine Below.setCell ?_ (by simp) _)))) (by have := HTE.out; omega)).mono ?_
            rintro e w5 ⟨v5, rfl, hR5, hb5⟩
            refine ⟨_, rfl, ?_⟩
            have HD5 := Aside0.mk (show Below w1.heap.size w1 w5 from below_step (by repeat (first | exact Below.refl _ _ | apply below_alloc | apply pw_below_drewN | apply below_drew1 | (refine Below.setCell ?_ (by simp) _))) hb5)
            obtain ⟨A5, c5, rfl, hc5', hC5⟩ := Kd.R_reads hR5
            have HR5 := Aside0.mk (And.intro hc5' (show Kd.F (Kd.int .i64) w5 (fun k => w1.heap.size ≤ k) A5 T.length T from Kd.F_mono (Kd.R_F (Kd.R_bound hR5)) (fun k hk => hk.2.1)))
            clear hR5 hb5 hc5' hC5
            refine hK.out _ _ ?_
            clear hK K
            refine norm_ (a' := ?_) ?_ ?_
            rotate_left
            · show Act.put _ (some 127) _ = _
              simp only [Act.put, List.setIfInBounds_toArray, List.set_cons_zero, List.set_cons_succ, i64_w, i32_w]
              rfl
            refine pure_ (i := 15) (N := some 128) (v := ?_) (a' := ?_) #[true, true, true, true, true, true, true, true, true, true, true, true, true, true, true, true, false, false] rfl rfl (by kernel_rfl) (fun _ _ _ h => h) (Or.inl ⟨by rfl, ?_⟩) ?_ ?_
            rotate_left
            · intro w'
              go_simp
              with_reducible rfl
            rotate_left
            · simp only [Act.put, List.setIfInBounds_toArray, List.set_cons_zero, List.set_cons_succ, i64_w, i32_w]
              rfl
            refine last_ (i := 16) (N := some 129) #[true, true, true, true, true, true, true, true, true, true, true, true, true, true, true, true, true, false] rfl rfl (by kernel_rfl) (by decide) (fun K hK => ?_)
            refine value_ (w1 := ?_) (v := ?_) (by rfl) rfl ?_ ?_
            rotate_left 2
            · go_simp
              constructor
              · rfl
              · rfl
            refine hK.out _ _ ?_
            clear hK K
            refine norm_ (a' := ?_) ?_ ?_
            rotate_left
            · show Act.put _ (some 129) _ = _
              simp only [Act.put, List.setIfInBounds_toArray, List.set_cons_zero, List.set_cons_succ, i64_w, i32_w]
              rfl
            refine last_ (i := 17) (N := some 130) #[true, true, true, true, true, true, true, true, true, true, true, true, true, true, true, true, true, true] rfl rfl (by kernel_rfl) (by decide) (fun K hK => ?_)
            refine goesV_ Try.func22 (by kernel_rfl) rfl #[.slice (some ⟨w5.heap.size, 0, none⟩) 1 1, .pointer (some ⟨W.heap.size, 0, none⟩)] (by rfl) rfl rfl (by rfl) (by first | (simp only [List.map_toArray, List.map_cons, List.map_nil]; done) | (simp only [List.map_toArray, List.map_cons, List.map_nil]; rfl)) ?_
            refine (FS_tell ((HF1.out.below HD5.out).below (below_alloc (Below.refl _ _) _)) _ _ _ _ (evLit w5 3 x A5 c5 T _ HR5.out.2 HR5.out.1) (fun k hk => HF1.out.freshOk k (hk.elim (fun h => by have := HD5.out.size; omega) (fun h => h.1))) (by have := HOL.out; simp; omega)).mono ?_
            rintro e w6 ⟨rfl, vo6, hF6⟩
            refine ⟨_, rfl, ?_⟩
            have HF9 := Aside0.mk hF6
            clear hF6
            refine hK.out _ _ ?_
            clear hK K
            refine norm_ (a' := ?_) ?_ ?_
            rotate_left
            · show Act.put _ (some 130) _ = _
              simp only [Act.put, List.setIfInBounds_toArray, List.set_cons_zero, List.set_cons_succ, i64_w, i32_w]
              rfl
            refine done_ (by kernel_rfl) ?_
            all_goals go_wp2
            go_roundg (gk - 1)
            case measure => have := HK.out; omega
            case rel => exact ⟨i + 1, _, _, by go_num, ⟨by have := HK.out; omega, by omega⟩, ⟨by rw [HNX.out]; exact HF9.out⟩⟩
          ·
            obtain ⟨s', n', hcv⟩ : ∃ s' n', cntV n x = (false, s', n') := by unfold cntV; rw [if_neg c64]; split; exact ⟨_, _, rfl⟩; split; exact ⟨_, _, rfl⟩; exact ⟨_, _, rfl⟩
            have HCV := Aside0.mk hcv
            have HNX := Aside0.mk (show feedV p (b.take (i + 1)) = (⟨s', n', h⟩, O) by rw [hnx, show stepV ⟨3, n, h⟩ x = (⟨s', n', h⟩, []) from by unfold stepV; rw [if_neg cA, if_neg cB, if_neg (by simp), if_pos rfl]; simp [hcv]]; simp)
            clear hnx
            go_wp2_with (first | (go_at_call 26; go_must (refine (FS_count HF.out x HX8.out.1 HX8.out.2 rfl (by have := HOK.out.nl; have := HM.out; dsimp only at *; omega) HOK.out.nb).mono ?_); rintro e w1 ⟨rfl, nv2, hF1⟩; dsimp only at hF1; rw [HCV.out] at hF1; have HF1 := Aside0.mk hF1; rw [HCV.out]; clear hF1))
            go_roundg (gk - 1)
            case measure => have := HK.out; omega
            case rel => exact ⟨i + 1, _, _, by go_num, ⟨by have := HK.out; omega, by omega⟩, ⟨by rw [HNX.out]; exact HF1.out⟩⟩
        obtain rfl : st = 4 := by have := HOK.out.st0; have := HOK.out.st4; dsimp only at *; omega
        by_cases c64 : 64 ≤ x
        ·
          have T64 : decide (x ≥ 64) = true := decide_eq_true c64
          have HNX := Aside0.mk (show feedV p (b.take (i + 1)) = (⟨0, n, h⟩, O) by rw [hnx, show stepV ⟨4, n, h⟩ x = (⟨0, n, h⟩, []) from by unfold stepV; rw [if_neg cA, if_neg cB, if_neg (by simp), if_neg (by simp)]; simp [c64]]; simp)
          clear hnx
          go_wp2
          go_roundg (gk - 1)
          case measure => have := HK.out; omega
          case rel => exact ⟨i + 1, _, _, by go_num, ⟨by have := HK.out; omega, by omega⟩, ⟨by rw [HNX.out]; exact HF.out.state 0⟩⟩
        ·
          have T64 : decide (x ≥ 64) = false := decide_eq_false c64
          have HNX := Aside0.mk (show feedV p (b.take (i + 1)) = (⟨4, n, h⟩, O) by rw [hnx, show stepV ⟨4, n, h⟩ x = (⟨4, n, h⟩, []) from by unfold stepV; rw [if_neg cA, if_neg cB, if_neg (by simp), if_neg (by simp)]; simp [c64]]; simp)
          clear hnx
          go_wp2
          go_roundg (gk - 1)
          case measure => have := HK.out; omega
          case rel => exact ⟨i + 1, _, _, by go_num, ⟨by have := HK.out; omega, by omega⟩, ⟨by rw [HNX.out]; exact HF.out⟩⟩
end Go.Proofs.Ytlllbaieidbcdaa.Str
