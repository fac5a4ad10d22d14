/- The document's parser: a step. -/
import Derived.Test.YtlllbaieidbcdaaPaO
namespace Go.Proofs.Ytlllbaieidbcdaa.Str
open Go.RowKit Go.Proofs.Ytlllbaieidbcdaa Go.Proofs.Ytlllbaieidbcdaa.PParseEvents Go.Proofs.YtlllbaieidbcdaaW.PrintWords Go.Proofs.YtlllbaieidbcdaaW.PrintLast Go.Proofs.YtlllbaieidbcdaaW.PrintMore
set_option linter.unusedVariables false
set_option linter.unusedSimpArgs false
set_option maxRecDepth 100000 in
set_option maxHeartbeats 8000000 in
theorem Step_A (w : World) (st : Int) (n h : List Int) (m : Nat) (An : Option Addr) (cn : Nat) (Ah : Option Addr) (ch : Nat) (Ao : Option Addr) (co : Nat) (L : List S48) (x : Int) (P : Nat → Prop) (hp : (⟨st, n, h⟩ : PP).ok m) (hm : m ≤ 10000)
    (hn : RD (Kd.int .i64) w P (.slice An n.length cn) n) (hh : RD (Kd.int .u8) w P (.slice Ah h.length ch) h) (ho : RD kE8 w P (.slice Ao L.length co) L) (hl : L.length ≤ 100000) (hx8 : 0 ≤ x ∧ x ≤ 255) (cA : x < 32 ∨ x = 127)
    {st' : Int} {n' h' : List Int} {E : List Evt} (hs : stepV ⟨st, n, h⟩ x = (⟨st', n', h'⟩, E)) {L' : List S48} (hL' : L ++ E.map ev48 = L') :
    Calls Try.prog 20 #[.agg #[.int .i64 st, .slice An n.length cn, .slice Ah h.length ch], .slice Ao L.length co, .int .u8 x] w fun e w' => RPost P w w' e st' n' h' L' := by
  have hQ0 : RQ P w ((w.alloc (.cells #[.int .i64 st, .slice An n.length cn, .slice Ah h.length ch] 31)).alloc (.cells #[.int .i64 0, .slice none 0 0, .slice none 0 0] 31)) st n h (.slice An n.length cn) (.slice Ah h.length ch) (.slice Ao L.length co) L := by
    have hb : Below w.heap.size w ((w.alloc (.cells #[.int .i64 st, .slice An n.length cn, .slice Ah h.length ch] 31)).alloc (.cells #[.int .i64 0, .slice none 0 0, .slice none 0 0] 31)) := below_alloc (below_alloc (Below.refl _ _) _) _
    refine ⟨blk_alloc (blk_new w _) _, ?_, hb, (hn.bound.below hb).mono (fun k hk => ⟨by omega, by omega, fun _ => hk.1⟩), (hh.bound.below hb).mono (fun k hk => ⟨by omega, by omega, fun _ => hk.1⟩), (ho.bound.below hb).mono (fun k hk => ⟨by omega, by omega, fun _ => hk.1⟩)⟩
    have := blk_new (w.alloc (.cells #[.int .i64 st, .slice An n.length cn, .slice Ah h.length ch] 31)) (.cells #[.int .i64 0, .slice none 0 0, .slice none 0 0] 31)
    rwa [alloc_size1] at this
  have HQ := Aside0.mk hQ0
  have HP := Aside0.mk hp
  have HLL := Aside0.mk (show L.length ≤ 1000000 by omega)
  have HM := Aside0.mk hm
  have HX8 := Aside0.mk hx8
  have hw64 : IntKind.i64.wrap x = x := by rw [i64_w, w64 (by omega) (by omega)]
  have hw64' : wrap64 x = x := w64 (by omega) (by omega)
  obtain ⟨L1, hL1⟩ : ∃ L1, L ++ (flushV h).map ev48 = L1 := ⟨_, rfl⟩
  have HL1 := Aside0.mk hL1
  have HLL1 := Aside0.mk (show L1.length ≤ 200000 by rw [← hL1, List.length_append, List.length_map]; have := flushV_len h; omega)
  clear hQ0 hn hh ho hm hp
  -- BODY
  by_cases c27 : x = 27
  · subst c27
    have hv : stepV ⟨st, n, h⟩ 27 = (⟨1, [], []⟩, flushV h) := by unfold stepV; rw [if_pos cA, if_pos rfl]
    rw [hv] at hs
    injection hs with hs1 hs2
    injection hs1 with h1 h2 h3
    subst h1 h2 h3 hs2
    rw [hL1] at hL'
    subst hL'
    clear hL1 hv cA
    go_enter Try.func20, Try.ntmps20
    go_wp2_with (first | (go_at_call 28; go_must (refine (RQ_flush HQ.out HLL.out HL1.out).mono ?_); rintro e w1 ⟨Ah1, ch1, Ao1, co1, rfl, hD, hQ⟩; have D1 := Aside0.mk hD; have H1 := Aside0.mk hQ; clear hD hQ) | ((with_reducible refine gate_ (.store 31 (.tmp 3) (.tmp 57)) rfl ?_); go_must (refine step_put (.tmp 3) (.tmp 57) rfl rfl rfl st _ _ rfl rfl H1.out.b3 rfl rfl rfl ?_); intro w2 hw; have H2 := Aside0.mk (H1.out.whole st H1.out.rn D1.out); rw [← hw] at H2; clear hw; obtain ⟨hc20, hc21, hc22, hf20, hf21, hf22⟩ := H2.out.cells) | ((with_reducible refine gate_ (.store 3 (.tmp 59) (.const (.int .i64 1))) rfl ?_); go_must (refine step_cell 3 (.tmp 59) (.const (.int .i64 1)) rfl rfl rfl (.int .i64 1) rfl rfl H2.out.b3 (show 0 < 3 from by decide) rfl (by kernel_rfl) rfl ?_); intro w3 hw; have H3 := Aside0.mk (H2.out.setst 1); rw [← hw] at H3; clear hw; obtain ⟨hc30, hc31, hc32, hf30, hf31, hf32⟩ := H3.out.cells) | ((with_reducible refine gate_ (.store 26 (.tmp 60) (.const (.slice none 0 0))) rfl ?_); go_must (refine step_cell 26 (.tmp 60) (.const (.slice none 0 0)) rfl rfl rfl (.slice none 0 0) rfl rfl H3.out.b3 (show 1 < 3 from by decide) rfl (by kernel_rfl) rfl ?_); intro w4 hw; have H4 := Aside0.mk (H3.out.setn (RD.nil _ _ _)); rw [← hw] at H4; clear hw; obtain ⟨hc40, hc41, hc42, hf40, hf41, hf42⟩ := H4.out.cells) | ((with_reducible refine gate_ (.store 31 (.tmp 6) (.tmp 61)) rfl ?_); go_must (refine step_put (.tmp 6) (.tmp 61) rfl rfl rfl 1 _ _ rfl rfl H4.out.b6 rfl rfl rfl ?_); intro w5 hw; have HA := Aside0.mk (H4.out.ans 1 H4.out.rn H4.out.rh); rw [← hw] at HA; clear hw))
    all_goals refine bodyPost_ret (results_ct rfl _ _ (w.heap.size + 1) 31 _ (0, 0) _ rfl HA.out.1 Try.underlying31 rfl rfl) (by rfl) ?_
    all_goals exact HA.out.2
  · have T27 : (x == 27) = false := by rw [beq_eq_false_iff_ne]; exact c27
    have T27' : (x != 27) = true := by rw [bne_iff_ne]; exact c27
    by_cases c24 : x = 24
    · subst c24
      have hv : stepV ⟨st, n, h⟩ 24 = (⟨0, n, []⟩, flushV h ++ [⟨2, 24, []⟩]) := by unfold stepV; rw [if_pos cA, if_neg c27, if_pos (by simp)]
      rw [hv] at hs
      injection hs with hs1 hs2
      injection hs1 with h1 h2 h3
      subst h1 h2 h3 hs2
      subst hL'
      rw [List.map_append, ← List.append_assoc, hL1]
      change Calls _ _ _ _ fun e w' => RPost P w w' e _ _ _ (L1 ++ [(⟨2, 24, []⟩ : S48)])
      obtain ⟨L2, hL2⟩ : ∃ L2, L1 ++ [(⟨2, 24, []⟩ : S48)] = L2 := ⟨_, rfl⟩
      rw [hL2]
      have HL2 := Aside0.mk hL2
      clear hL2
      clear hL1 hv
      go_enter Try.func20, Try.ntmps20
      go_wp2_with (first | (go_at_call 28; go_must (refine (RQ_flush HQ.out HLL.out HL1.out).mono ?_); rintro e w1 ⟨Ah1, ch1, Ao1, co1, rfl, hD, hQ⟩; have D1 := Aside0.mk hD; have H1 := Aside0.mk hQ; clear hD hQ) | ((with_reducible refine gate_ (.store 31 (.tmp 3) (.tmp 33)) rfl ?_); go_must (refine step_put (.tmp 3) (.tmp 33) rfl rfl rfl st _ _ rfl rfl H1.out.b3 rfl rfl rfl ?_); intro w2 hw; have H2 := Aside0.mk (H1.out.whole st H1.out.rn D1.out); rw [← hw] at H2; clear hw; obtain ⟨hc20, hc21, hc22, hf20, hf21, hf22⟩ := H2.out.cells) | ((with_reducible refine gate_ (.store 3 (.tmp 41) (.const (.int .i64 0))) rfl ?_); go_must (refine step_cell 3 (.tmp 41) (.const (.int .i64 0)) rfl rfl rfl (.int .i64 0) rfl rfl H2.out.b3 (show 0 < 3 from by decide) rfl (by kernel_rfl) rfl ?_); intro w3 hw; have H3 := Aside0.mk (H2.out.setst 0); rw [← hw] at H3; clear hw; obtain ⟨hc30, hc31, hc32, hf30, hf31, hf32⟩ := H3.out.cells))
      have HSZ := H3.out.sz
      refine start_ (n := 11) (S := fun w' => w'.cell? ⟨w.heap.size, 0, none⟩ = some (.int .i64 0) ∧ w'.cell? ⟨w.heap.size, 1, none⟩ = some (.slice An n.length cn) ∧ w'.cell? ⟨w.heap.size, 2, none⟩ = some (.slice Ah1 0 ch1)) (ds := [9]) #[false, false, false, false, false, false, false, false, false, false, false] (by kernel_rfl) rfl rfl ⟨H3.out.cells.1, H3.out.cells.2.1, H3.out.cells.2.2.1⟩ (fun hHeld => ?_)
      refine pure_ (i := 2) (N := some 44) (v := ?_) (a' := ?_) #[false, false, true, false, false, false, false, false, false, false, false] rfl rfl (by kernel_rfl) (fun _ _ _ h => h) (Or.inl ⟨by rfl, ?_⟩) ?_ ?_
      rotate_left
      · intro w'
        go_simp
        with_reducible rfl
      rotate_left
      · simp only [Act.put, List.setIfInBounds_toArray, List.set_cons_zero, List.set_cons_succ, i64_w, i32_w]
        rfl
      refine pure_ (i := 4) (N := some 46) (v := ?_) (a' := ?_) #[false, false, true, false, true, false, false, false, false, false, false] rfl rfl (by kernel_rfl) (fun _ _ _ h => h) (Or.inl ⟨by rfl, ?_⟩) ?_ ?_
      rotate_left
      · intro w'
        go_simp
        with_reducible rfl
      rotate_left
      · simp only [Act.put, List.setIfInBounds_toArray, List.set_cons_zero, List.set_cons_succ, i64_w, i32_w]
        rfl
      refine pure_ (i := 5) (N := some 47) (v := ?_) (a' := ?_) #[false, false, true, false, true, true, false, false, false, false, false] rfl rfl (by kernel_rfl) (fun _ _ _ h => h) (Or.inl ⟨by rfl, ?_⟩) ?_ ?_
      rotate_left
      · intro w'
        go_simp
        with_reducible rfl
      rotate_left
      · simp only [Act.put, List.setIfInBounds_toArray, List.set_cons_zero, List.set_cons_succ, i64_w, i32_w]
        rfl
      refine pure_ (i := 6) (N := some 48) (v := ?_) (a' := ?_) #[false, false, true, false, true, true, true, false, false, false, false] rfl rfl (by kernel_rfl) (fun _ _ _ h => h) (Or.inl ⟨by rfl, ?_⟩) ?_ ?_
      rotate_left
      · intro w'
        go_simp
        with_reducible rfl
      rotate_left
      · simp only [Act.put, List.setIfInBounds_toArray, List.set_cons_zero, List.set_cons_succ, i64_w, i32_w]
        rfl
      refine take_ (i := 0) (N := some 42) (v := ?_) (a' := ?_) #[true, false, true, false, true, true, true, false, false, false, false] rfl rfl (by kernel_rfl) (fun _ _ _ h => h) (Or.inl ⟨by rfl, ?_⟩) hHeld ?_ ?_
      rotate_left
      · rintro w' ⟨s0, s1, s2⟩
        go_simp
        with_reducible rfl
      rotate_left
      · simp only [Act.put, List.setIfInBounds_toArray, List.set_cons_zero, List.set_cons_succ, i64_w, i32_w]
        rfl
      refine join_ (σ := Value × Value × Nat) 3 #[true, true, true, true, true, true, true, true, false, false, false] (fun s => [(43, s.1), (45, s.2.1), (49, .slice (some ⟨s.2.2, 0, none⟩) 1 1)]) (fun s w' => Kd.N kE8 48 w' w3.heap.size (okS P w) s.2.1 L1 ∧ Kd.F kE8 w' (fun k => k = s.2.2) (some ⟨s.2.2, 0, none⟩) 1 [(⟨2, 24, []⟩ : S48)] ∧ some s.2.2 ≠ s.2.1.ownBlock ∧ s.2.2 < w'.heap.size ∧ w3.heap.size ≤ s.2.2 ∧ Below w3.heap.size w3 w') ?_ ?_
      rotate_left
      · intro hCont
        refine two_ (i := 1) (j := 7) (Ni := some 43) (Nj := some 49) #[true, true, true, false, true, true, true, false, false, false, false] #[true, false, true, false, true, true, true, true, false, false, false] rfl rfl rfl rfl (by kernel_rfl) (by decide) (by decide) (fun K hK => ?_) (fun K hK => ?_)
        · skip
          refine value_ (w1 := ?_) (v := ?_) (by rfl) rfl ?_ ?_
          rotate_left 2
          · go_simp
            constructor
            · rfl
            · rfl
          skip
          refine hK.out _ _ ⟨(H3.out.below (show Below w3.heap.size w3 (w3.drew.alloc (.cells #[] 48)) from (below_alloc (below_drew (Below.refl _ _)) (.cells #[] 48)))).cells.1, (H3.out.below (show Below w3.heap.size w3 (w3.drew.alloc (.cells #[] 48)) from (below_alloc (below_drew (Below.refl _ _)) (.cells #[] 48)))).cells.2.1, (H3.out.below (show Below w3.heap.size w3 (w3.drew.alloc (.cells #[] 48)) from (below_alloc (below_drew (Below.refl _ _)) (.cells #[] 48)))).cells.2.2.1⟩ (fun hHeld => ?_)
          clear hK K
          refine norm_ (a' := ?_) ?_ ?_
          rotate_left
          · show Act.put _ (some 43) _ = _
            simp only [Act.put, List.setIfInBounds_toArray, List.set_cons_zero, List.set_cons_succ, i64_w, i32_w]
            rfl
          refine two_ (i := 3) (j := 7) (Ni := some 45) (Nj := some 49) #[true, true, true, true, true, true, true, false, false, false, false] #[true, true, true, false, true, true, true, true, false, false, false] rfl rfl rfl rfl (by kernel_rfl) (by decide) (by decide) (fun K hK => ?_) (fun K hK => ?_)
          · skip
            refine Kd.N_append_rows_step kE8 (w0 := w3) w3.heap.size (by rfl) (.tmp 43) (.tmp 44) 32 48 _ 40 (by rfl) Try.underlying32 infoE8 rfl (by decide) (by omega) (.slice (some ⟨w3.heap.size, 0, none⟩) 0 0) [] L1 Ao1 _ co1 (okS P w) (fun k => okS P w k ∧ k < w3.heap.size) (by rfl) (by rfl) (emptyE' w3.drew w3.heap.size w3.heap.size _ (Nat.le_refl _) rfl (okS_new (by have := HSZ; omega))) (Kd.F_below (Kd.F_bound H3.out.ro.F.1) (show Below w3.heap.size w3 (w3.drew.alloc (.cells #[] 48)) from (below_alloc (below_drew (Below.refl _ _)) (.cells #[] 48)))) (fun k hk => ⟨hk.1, fun h => by have := hk.2; simp [Value.ownBlock] at h; omega⟩) (fun k hk => okS_new (by have h2 := Nat.le_trans ((show Below w3.heap.size w3 (w3.drew.alloc (.cells #[] 48)) from (below_alloc (below_drew (Below.refl _ _)) (.cells #[] 48)))).size hk; have := HSZ; omega)) (show Below w3.heap.size w3 (w3.drew.alloc (.cells #[] 48)) from (below_alloc (below_drew (Below.refl _ _)) (.cells #[] 48))) (show Below w3.heap.size w3 (w3.drew.alloc (.cells #[] 48)) from (below_alloc (below_drew (Below.refl _ _)) (.cells #[] 48))).size (by simp; have := HLL1.out; omega) ?_
            intro v4 w4 ho hb hg hat
            rw [List.nil_append] at ho
            have HN4 := Aside0.mk ho
            have HB4 := Aside0.mk hb
            clear ho hb hg hat
            refine hK.out _ _ ⟨(H3.out.below HB4.out).cells.1, (H3.out.below HB4.out).cells.2.1, (H3.out.below HB4.out).cells.2.2.1⟩ (fun hHeld => ?_)
            clear hK K
            refine norm_ (a' := ?_) ?_ ?_
            rotate_left
            · show Act.put _ (some 45) _ = _
              simp only [Act.put, List.setIfInBounds_toArray, List.set_cons_zero, List.set_cons_succ, i64_w, i32_w]
              rfl
            refine one_ (i := 7) (N := some 49) #[true, true, true, true, true, true, true, true, false, false, false] rfl rfl (by kernel_rfl) (by decide) (fun K hK => ?_)
            refine value_ (w1 := ?_) (v := ?_) (by rfl) rfl ?_ ?_
            rotate_left 2
            · go_simp
              constructor
              · rfl
              · rfl
            skip
            refine hK.out _ _ ⟨(H3.out.below (below_alloc HB4.out (.cells #[.int .i64 2, .int .i64 24, .slice none 0 0] 48))).cells.1, (H3.out.below (below_alloc HB4.out (.cells #[.int .i64 2, .int .i64 24, .slice none 0 0] 48))).cells.2.1, (H3.out.below (below_alloc HB4.out (.cells #[.int .i64 2, .int .i64 24, .slice none 0 0] 48))).cells.2.2.1⟩ (fun hHeld => ?_)
            clear hK K
            refine norm_ (a' := ?_) ?_ ?_
            rotate_left
            · show Act.put _ (some 49) _ = _
              simp only [Act.put, List.setIfInBounds_toArray, List.set_cons_zero, List.set_cons_succ, i64_w, i32_w]
              rfl
            exact norm_ (by simp only [putAll, Act.put, List.setIfInBounds_toArray, List.set_cons_zero, List.set_cons_succ]) (hCont ((.slice (some ⟨w3.heap.size, 0, none⟩) 0 0), v4, w4.heap.size) _ ⟨Kd.N_alloc HN4.out _, evNil8 w4 2 24, fun h => Nat.lt_irrefl _ (Kd.N_lt HN4.out _ h.symm), by rw [alloc_size1]; exact Nat.lt_succ_self _, HB4.out.size, below_alloc HB4.out _⟩)
          · skip
            refine value_ (w1 := ?_) (v := ?_) (by rfl) rfl ?_ ?_
            rotate_left 2
            · go_simp
              constructor
              · rfl
              · rfl
            skip
            refine hK.out _ _ ⟨(H3.out.below (show Below w3.heap.size w3 ((w3.drew.alloc (.cells #[] 48)).alloc (.cells #[.int .i64 2, .int .i64 24, .slice none 0 0] 48)) from (below_alloc (below_alloc (below_drew (Below.refl _ _)) (.cells #[] 48)) (.cells #[.int .i64 2, .int .i64 24, .slice none 0 0] 48)))).cells.1, (H3.out.below (show Below w3.heap.size w3 ((w3.drew.alloc (.cells #[] 48)).alloc (.cells #[.int .i64 2, .int .i64 24, .slice none 0 0] 48)) from (below_alloc (below_alloc (below_drew (Below.refl _ _)) (.cells #[] 48)) (.cells #[.int .i64 2, .int .i64 24, .slice none 0 0] 48)))).cells.2.1, (H3.out.below (show Below w3.heap.size w3 ((w3.drew.alloc (.cells #[] 48)).alloc (.cells #[.int .i64 2, .int .i64 24, .slice none 0 0] 48)) from (below_alloc (below_alloc (below_drew (Below.refl _ _)) (.cells #[] 48)) (.cells #[.int .i64 2, .int .i64 24, .slice none 0 0] 48)))).cells.2.2.1⟩ (fun hHeld => ?_)
            clear hK K
            refine norm_ (a' := ?_) ?_ ?_
            rotate_left
            · show Act.put _ (some 49) _ = _
              simp only [Act.put, List.setIfInBounds_toArray, List.set_cons_zero, List.set_cons_succ, i64_w, i32_w]
              rfl
            refine one_ (i := 3) (N := some 45) #[true, true, true, true, true, true, true, true, false, false, false] rfl rfl (by kernel_rfl) (by decide) (fun K hK => ?_)
            refine Kd.N_append_rows_step kE8 (w0 := w3) w3.heap.size (by rfl) (.tmp 43) (.tmp 44) 32 48 _ 40 (by rfl) Try.underlying32 infoE8 rfl (by decide) (by omega) (.slice (some ⟨w3.heap.size, 0, none⟩) 0 0) [] L1 Ao1 _ co1 (okS P w) (fun k => okS P w k ∧ k < w3.heap.size) (by rfl) (by rfl) (Kd.N_alloc (emptyE' w3.drew w3.heap.size w3.heap.size _ (Nat.le_refl _) rfl (okS_new (by have := HSZ; omega))) (.cells #[.int .i64 2, .int .i64 24, .slice none 0 0] 48)) (Kd.F_below (Kd.F_bound H3.out.ro.F.1) (show Below w3.heap.size w3 ((w3.drew.alloc (.cells #[] 48)).alloc (.cells #[.int .i64 2, .int .i64 24, .slice none 0 0] 48)) from (below_alloc (below_alloc (below_drew (Below.refl _ _)) (.cells #[] 48)) (.cells #[.int .i64 2, .int .i64 24, .slice none 0 0] 48)))) (fun k hk => ⟨hk.1, fun h => by have := hk.2; simp [Value.ownBlock] at h; omega⟩) (fun k hk => okS_new (by have h2 := Nat.le_trans ((show Below w3.heap.size w3 ((w3.drew.alloc (.cells #[] 48)).alloc (.cells #[.int .i64 2, .int .i64 24, .slice none 0 0] 48)) from (below_alloc (below_alloc (below_drew (Below.refl _ _)) (.cells #[] 48)) (.cells #[.int .i64 2, .int .i64 24, .slice none 0 0] 48)))).size hk; have := HSZ; omega)) (show Below w3.heap.size w3 ((w3.drew.alloc (.cells #[] 48)).alloc (.cells #[.int .i64 2, .int .i64 24, .slice none 0 0] 48)) from (below_alloc (below_alloc (below_drew (Below.refl _ _)) (.cells #[] 48)) (.cells #[.int .i64 2, .int .i64 24, .slice none 0 0] 48))) (show Below w3.heap.size w3 ((w3.drew.alloc (.cells #[] 48)).alloc (.cells #[.int .i64 2, .int .i64 24, .slice none 0 0] 48)) from (below_alloc (below_alloc (below_drew (Below.refl _ _)) (.cells #[] 48)) (.cells #[.int .i64 2, .int .i64 24, .slice none 0 0] 48))).size (by simp; have := HLL1.out; omega) ?_
            intro v4 w4 ho hb hg hat
            rw [List.nil_append] at ho
            have HN4 := Aside0.mk ho
            have HB4 := Aside0.mk hb
            have HF4 := Aside0.mk (fork_end (evNil8' (w3.drew.alloc (.cells #[] 48)) 2 24 (w3.heap.size + 1) (drew_size _ _).symm) (by rw [alloc_size1, drew_size]; omega) (by simp [Value.ownBlock]) hg hat)
            have HS4 := Aside0.mk hg.size
            clear ho hb hg hat
            refine hK.out _ _ ⟨(H3.out.below HB4.out).cells.1, (H3.out.below HB4.out).cells.2.1, (H3.out.below HB4.out).cells.2.2.1⟩ (fun hHeld => ?_)
            clear hK K
            refine norm_ (a' := ?_) ?_ ?_
            rotate_left
            · show Act.put _ (some 45) _ = _
              simp only [Act.put, List.setIfInBounds_toArray, List.set_cons_zero, List.set_cons_succ, i64_w, i32_w]
              rfl
            exact norm_ (by simp only [putAll, Act.put, List.setIfInBounds_toArray, List.set_cons_zero, List.set_cons_succ]) (hCont ((.slice (some ⟨w3.heap.size, 0, none⟩) 0 0), v4, w3.heap.size + 1) _ ⟨HN4.out, HF4.out.1, HF4.out.2, by have := HS4.out; rw [size2] at this; exact Nat.lt_of_lt_of_le (Nat.lt_succ_self _) this, Nat.le_succ _, HB4.out⟩)
        · skip
          refine value_ (w1 := ?_) (v := ?_) (by rfl) rfl ?_ ?_
          rotate_left 2
          · go_simp
            constructor
            · rfl
            · rfl
          skip
          refine hK.out _ _ ⟨(H3.out.below (show Below w3.heap.size w3 (w3.drew.alloc (.cells #[.int .i64 2, .int .i64 24, .slice none 0 0] 48)) from (below_alloc (below_drew (Below.refl _ _)) (.cells #[.int .i64 2, .int .i64 24, .slice none 0 0] 48)))).cells.1, (H3.out.below (show Below w3.heap.size w3 (w3.drew.alloc (.cells #[.int .i64 2, .int .i64 24, .slice none 0 0] 48)) from (below_alloc (below_drew (Below.refl _ _)) (.cells #[.int .i64 2, .int .i64 24, .slice none 0 0] 48)))).cells.2.1, (H3.out.below (show Below w3.heap.size w3 (w3.drew.alloc (.cells #[.int .i64 2, .int .i64 24, .slice none 0 0] 48)) from (below_alloc (below_drew (Below.refl _ _)) (.cells #[.int .i64 2, .int .i64 24, .slice none 0 0] 48)))).cells.2.2.1⟩ (fun hHeld => ?_)
          clear hK K
          refine norm_ (a' := ?_) ?_ ?_
          rotate_left
          · show Act.put _ (some 49) _ = _
            simp only [Act.put, List.setIfInBounds_toArray, List.set_cons_zero, List.set_cons_succ, i64_w, i32_w]
            rfl
          refine one_ (i := 1) (N := some 43) #[true, true, true, false, true, true, true, true, false, false, false] rfl rfl (by kernel_rfl) (by decide) (fun K hK => ?_)
          refine value_ (w1 := ?_) (v := ?_) (by rfl) rfl ?_ ?_
          rotate_left 2
          · go_simp
            constructor
            · rfl
            · rfl
          skip
          refine hK.out _ _ ⟨(H3.out.below (show Below w3.heap.size w3 ((w3.drew.alloc (.cells #[.int .i64 2, .int .i64 24, .slice none 0 0] 48)).alloc (.cells #[] 48)) from (below_alloc (below_alloc (below_drew (Below.refl _ _)) (.cells #[.int .i64 2, .int .i64 24, .slice none 0 0] 48)) (.cells #[] 48)))).cells.1, (H3.out.below (show Below w3.heap.size w3 ((w3.drew.alloc (.cells #[.int .i64 2, .int .i64 24, .slice none 0 0] 48)).alloc (.cells #[] 48)) from (below_alloc (below_alloc (below_drew (Below.refl _ _)) (.cells #[.int .i64 2, .int .i64 24, .slice none 0 0] 48)) (.cells #[] 48)))).cells.2.1, (H3.out.below (show Below w3.heap.size w3 ((w3.drew.alloc (.cells #[.int .i64 2, .int .i64 24, .slice none 0 0] 48)).alloc (.cells #[] 48)) from (below_alloc (below_alloc (below_drew (Below.refl _ _)) (.cells #[.int .i64 2, .int .i64 24, .slice none 0 0] 48)) (.cells #[] 48)))).cells.2.2.1⟩ (fun hHeld => ?_)
          clear hK K
          refine norm_ (a' := ?_) ?_ ?_
          rotate_left
          · show Act.put _ (some 43) _ = _
            simp only [Act.put, List.setIfInBounds_toArray, List.set_cons_zero, List.set_cons_succ, i64_w, i32_w]
            rfl
          refine one_ (i := 3) (N := some 45) #[true, true, true, true, true, true, true, true, false, false, false] rfl rfl (by kernel_rfl) (by decide) (fun K hK => ?_)
          refine Kd.N_append_rows_step kE8 (w0 := w3) w3.heap.size (by rfl) (.tmp 43) (.tmp 44) 32 48 _ 40 (by rfl) Try.underlying32 infoE8 rfl (by decide) (by omega) (.slice (some ⟨w3.heap.size + 1, 0, none⟩) 0 0) [] L1 Ao1 _ co1 (okS P w) (fun k => okS P w k ∧ k < w3.heap.size) (by rfl) (by rfl) (emptyE' (w3.drew.alloc (.cells #[.int .i64 2, .int .i64 24, .slice none 0 0] 48)) w3.heap.size (w3.heap.size + 1) _ (by rw [drew_size]; omega) (drew_size _ _).symm (okS_new (by have := HSZ; omega))) (Kd.F_below (Kd.F_bound H3.out.ro.F.1) (show Below w3.heap.size w3 ((w3.drew.alloc (.cells #[.int .i64 2, .int .i64 24, .slice none 0 0] 48)).alloc (.cells #[] 48)) from (below_alloc (below_alloc (below_drew (Below.refl _ _)) (.cells #[.int .i64 2, .int .i64 24, .slice none 0 0] 48)) (.cells #[] 48)))) (fun k hk => ⟨hk.1, fun h => by have := hk.2; simp [Value.ownBlock] at h; omega⟩) (fun k hk => okS_new (by have h2 := Nat.le_trans ((show Below w3.heap.size w3 ((w3.drew.alloc (.cells #[.int .i64 2, .int .i64 24, .slice none 0 0] 48)).alloc (.cells #[] 48)) from (below_alloc (below_alloc (below_drew (Below.refl _ _)) (.cells #[.int .i64 2, .int .i64 24, .slice none 0 0] 48)) (.cells #[] 48)))).size hk; have := HSZ; omega)) (show Below w3.heap.size w3 ((w3.drew.alloc (.cells #[.int .i64 2, .int .i64 24, .slice none 0 0] 48)).alloc (.cells #[] 48)) from (below_alloc (below_alloc (below_drew (Below.refl _ _)) (.cells #[.int .i64 2, .int .i64 24, .slice none 0 0] 48)) (.cells #[] 48))) (show Below w3.heap.size w3 ((w3.drew.alloc (.cells #[.int .i64 2, .int .i64 24, .slice none 0 0] 48)).alloc (.cells #[] 48)) from (below_alloc (below_alloc (below_drew (Below.refl _ _)) (.cells #[.int .i64 2, .int .i64 24, .slice none 0 0] 48)) (.cells #[] 48))).size (by simp; have := HLL1.out; omega) ?_
          intro v4 w4 ho hb hg hat
          rw [List.nil_append] at ho
          have HN4 := Aside0.mk ho
          have HB4 := Aside0.mk hb
          have HF4 := Aside0.mk (fork_end (Kd.F_alloc (evNil8' w3.drew 2 24 w3.heap.size rfl) (.cells #[] 48)) (by rw [alloc_size1, drew_size]; omega) (by simp [Value.ownBlock]) hg hat)
          have HS4 := Aside0.mk hg.size
          clear ho hb hg hat
          refine hK.out _ _ ⟨(H3.out.below HB4.out).cells.1, (H3.out.below HB4.out).cells.2.1, (H3.out.below HB4.out).cells.2.2.1⟩ (fun hHeld => ?_)
          clear hK K
          refine norm_ (a' := ?_) ?_ ?_
          rotate_left
          · show Act.put _ (some 45) _ = _
            simp only [Act.put, List.setIfInBounds_toArray, List.set_cons_zero, List.set_cons_succ, i64_w, i32_w]
            rfl
          exact norm_ (by simp only [putAll, Act.put, List.setIfInBounds_toArray, List.set_cons_zero, List.set_cons_succ]) (hCont ((.slice (some ⟨w3.heap.size + 1, 0, none⟩) 0 0), v4, w3.heap.size) _ ⟨HN4.out, HF4.out.1, HF4.out.2, by have := HS4.out; rw [size2] at this; exact Nat.lt_of_lt_of_le (Nat.lt_succ_of_lt (Nat.lt_succ_self _)) this, Nat.le_refl _, HB4.out⟩)
      rintro ⟨vE, v5, g5⟩ w5 ⟨hN5, hF5, hne5, hlt5, hge5, hb5⟩
      dsimp only at hN5 hF5 hne5 hlt5 hge5
      have hHeld := (And.intro (H3.out.below hb5).cells.1 (And.intro (H3.out.below hb5).cells.2.1 (H3.out.below hb5).cells.2.2.1))
      have HN5 := Aside0.mk hN5
      have HF5 := Aside0.mk (And.intro hF5 (And.intro hne5 (And.intro hlt5 (And.intro hge5 hb5))))
      clear hN5 hF5 hne5 hlt5 hge5 hb5
      refine norm_ (a' := ?_) ?_ ?_
      rotate_left
      · simp only [putAll, Act.put, List.setIfInBounds_toArray, List.set_cons_zero, List.set_cons_succ]
        rfl
      refine one_ (i := 8) (N := some 50) #[true, true, true, true, true, true, true, true, true, false, false] rfl rfl (by kernel_rfl) (by decide) (fun K hK => ?_)
      refine Kd.N_append_rows_step kE8 (w0 := w3) w3.heap.size (by rfl) (.tmp 45) (.tmp 49) 32 48 _ 40 (by rfl) Try.underlying32 infoE8 rfl (by decide) (by omega) v5 L1 [(⟨2, 24, []⟩ : S48)] (some ⟨g5, 0, none⟩) 1 1 (okS P w) _ (by rfl) (by rfl) HN5.out HF5.out.1 (fun k hk => ⟨okS_new (by have := HSZ; have := HF5.out.2.2.2.1; omega), by rw [hk]; exact HF5.out.2.1⟩) (fun k hk => okS_new (by have h2 := Nat.le_trans HF5.out.2.2.2.2.size hk; have := HSZ; omega)) HF5.out.2.2.2.2 HF5.out.2.2.2.2.size (by have := HLL1.out; omega) ?_
      intro v6 w6 ho hb hg hat
      rw [HL2.out] at ho
      have HB6 := Aside0.mk hb
      have H6 := Aside0.mk ((H3.out.below hb).out (RD.ofN ho))
      have HO6 := Aside0.mk ho
      clear ho hb hg hat
      refine hK.out _ _ ⟨H6.out.cells.1, H6.out.cells.2.1, H6.out.cells.2.2.1⟩ (fun hHeld => ?_)
      clear hK K
      refine norm_ (a' := ?_) ?_ ?_
      rotate_left
      · show Act.put _ (some 50) _ = _
        simp only [Act.put, List.setIfInBounds_toArray, List.set_cons_zero, List.set_cons_succ, i64_w, i32_w]
        rfl
      refine last_ (i := 9) (N := none) #[true, true, true, true, true, true, true, true, true, true, false] rfl rfl (by kernel_rfl) (by decide) (fun K hK => ?_)
      refine skip_ (w1 := pOut w6 (w.heap.size + 1) 0 (.slice An n.length cn) (.slice Ah1 0 ch1)) (by rfl) rfl (exec_put (.tmp 6) (.tmp 42) rfl 0 _ _ rfl rfl H6.out.b6 rfl rfl rfl) ?_
      have HA := Aside0.mk (H6.out.ans 0 H6.out.rn H6.out.rh)
      refine hK.out _ _ ?_
      clear hK K
      refine pure_ (i := 10) (N := some 7) (v := ?_) (a' := ?_) #[true, true, true, true, true, true, true, true, true, true, true] rfl rfl (by kernel_rfl) (fun _ _ _ h => h) (Or.inl ⟨by rfl, ?_⟩) ?_ ?_
      rotate_left
      · intro w'
        go_simp
        with_reducible rfl
      rotate_left
      · simp only [Act.put, List.setIfInBounds_toArray, List.set_cons_zero, List.set_cons_succ, i64_w, i32_w]
        rfl
      refine done_ (by kernel_rfl) ?_
      all_goals go_wp2
      all_goals refine bodyPost_ret (results_ct rfl _ _ (w.heap.size + 1) 31 _ (0, 0) _ rfl HA.out.1 Try.underlying31 rfl rfl) (by rfl) ?_
      all_goals exact HA.out.2
    have T24 : (x == 24) = false := by rw [beq_eq_false_iff_ne]; exact c24
    by_cases c26 : x = 26
    · subst c26
      have hv : stepV ⟨st, n, h⟩ 26 = (⟨0, n, []⟩, flushV h ++ [⟨2, 26, []⟩]) := by unfold stepV; rw [if_pos cA, if_neg c27, if_pos (by simp)]
      rw [hv] at hs
      injection hs with hs1 hs2
      injection hs1 with h1 h2 h3
      subst h1 h2 h3 hs2
      subst hL'
      rw [List.map_append, ← List.append_assoc, hL1]
      change Calls _ _ _ _ fun e w' => RPost P w w' e _ _ _ (L1 ++ [(⟨2, 26, []⟩ : S48)])
      obtain ⟨L2, hL2⟩ : ∃ L2, L1 ++ [(⟨2, 26, []⟩ : S48)] = L2 := ⟨_, rfl⟩
      rw [hL2]
      have HL2 := Aside0.mk hL2
      clear hL2
      clear hL1 hv
      go_enter Try.func20, Try.ntmps20
      go_wp2_with (first | (go_at_call 28; go_must (refine (RQ_flush HQ.out HLL.out HL1.out).mono ?_); rintro e w1 ⟨Ah1, ch1, Ao1, co1, rfl, hD, hQ⟩; have D1 := Aside0.mk hD; have H1 := Aside0.mk hQ; clear hD hQ) | ((with_reducible refine gate_ (.store 31 (.tmp 3) (.tmp 33)) rfl ?_); go_must (refine step_put (.tmp 3) (.tmp 33) rfl rfl rfl st _ _ rfl rfl H1.out.b3 rfl rfl rfl ?_); intro w2 hw; have H2 := Aside0.mk (H1.out.whole st H1.out.rn D1.out); rw [← hw] at H2; clear hw; obtain ⟨hc20, hc21, hc22, hf20, hf21, hf22⟩ := H2.out.cells) | ((with_reducible refine gate_ (.store 3 (.tmp 41) (.const (.int .i64 0))) rfl ?_); go_must (refine step_cell 3 (.tmp 41) (.const (.int .i64 0)) rfl rfl rfl (.int .i64 0) rfl rfl H2.out.b3 (show 0 < 3 from by decide) rfl (by kernel_rfl) rfl ?_); intro w3 hw; have H3 := Aside0.mk (H2.out.setst 0); rw [← hw] at H3; clear hw; obtain ⟨hc30, hc31, hc32, hf30, hf31, hf32⟩ := H3.out.cells))
      have HSZ := H3.out.sz
      refine start_ (n := 11) (S := fun w' => w'.cell? ⟨w.heap.size, 0, none⟩ = some (.int .i64 0) ∧ w'.cell? ⟨w.heap.size, 1, none⟩ = some (.slice An n.length cn) ∧ w'.cell? ⟨w.heap.size, 2, none⟩ = some (.slice Ah1 0 ch1)) (ds := [9]) #[false, false, false, false, false, false, false, false, false, false, false] (by kernel_rfl) rfl rfl ⟨H3.out.cells.1, H3.out.cells.2.1, H3.out.cells.2.2.1⟩ (fun hHeld => ?_)
      refine pure_ (i := 2) (N := some 44) (v := ?_) (a' := ?_) #[false, false, true, false, false, false, false, false, false, false, false] rfl rfl (by kernel_rfl) (fun _ _ _ h => h) (Or.inl ⟨by rfl, ?_⟩) ?_ ?_
      rotate_left
      · intro w'
        go_simp
        with_reducible rfl
      rotate_left
      · simp only [Act.put, List.setIfInBounds_toArray, List.set_cons_zero, List.set_cons_succ, i64_w, i32_w]
        rfl
      refine pure_ (i := 4) (N := some 46) (v := ?_) (a' := ?_) #[false, false, true, false, true, false, false, false, false, false, false] rfl rfl (by kernel_rfl) (fun _ _ _ h => h) (Or.inl ⟨by rfl, ?_⟩) ?_ ?_
      rotate_left
      · intro w'
        go_simp
        with_reducible rfl
      rotate_left
      · simp only [Act.put, List.setIfInBounds_toArray, List.set_cons_zero, List.set_cons_succ, i64_w, i32_w]
        rfl
      refine pure_ (i := 5) (N := some 47) (v := ?_) (a' := ?_) #[false, false, true, false, true, true, false, false, false, false, false] rfl rfl (by kernel_rfl) (fun _ _ _ h => h) (Or.inl ⟨by rfl, ?_⟩) ?_ ?_
      rotate_left
      · intro w'
        go_simp
        with_reducible rfl
      rotate_left
      · simp only [Act.put, List.setIfInBounds_toArray, List.set_cons_zero, List.set_cons_succ, i64_w, i32_w]
        rfl
      refine pure_ (i := 6) (N := some 48) (v := ?_) (a' := ?_) #[false, false, true, false, true, true, true, false, false, false, false] rfl rfl (by kernel_rfl) (fun _ _ _ h => h) (Or.inl ⟨by rfl, ?_⟩) ?_ ?_
      rotate_left
      · intro w'
        go_simp
        with_reducible rfl
      rotate_left
      · simp only [Act.put, List.setIfInBounds_toArray, List.set_cons_zero, List.set_cons_succ, i64_w, i32_w]
        rfl
      refine take_ (i := 0) (N := some 42) (v := ?_) (a' := ?_) #[true, false, true, false, true, true, true, false, false, false, false] rfl rfl (by kernel_rfl) (fun _ _ _ h => h) (Or.inl ⟨by rfl, ?_⟩) hHeld ?_ ?_
      rotate_left
      · rintro w' ⟨s0, s1, s2⟩
        go_simp
        with_reducible rfl
      rotate_left
      · simp only [Act.put, List.setIfInBounds_toArray, List.set_cons_zero, List.set_cons_succ, i64_w, i32_w]
        rfl
      refine join_ (σ := Value × Value × Nat) 3 #[true, true, true, true, true, true, true, true, false, false, false] (fun s => [(43, s.1), (45, s.2.1), (49, .slice (some ⟨s.2.2, 0, none⟩) 1 1)]) (fun s w' => Kd.N kE8 48 w' w3.heap.size (okS P w) s.2.1 L1 ∧ Kd.F kE8 w' (fun k => k = s.2.2) (some ⟨s.2.2, 0, none⟩) 1 [(⟨2, 26, []⟩ : S48)] ∧ some s.2.2 ≠ s.2.1.ownBlock ∧ s.2.2 < w'.heap.size ∧ w3.heap.size ≤ s.2.2 ∧ Below w3.heap.size w3 w') ?_ ?_
      rotate_left
      · intro hCont
        refine two_ (i := 1) (j := 7) (Ni := some 43) (Nj := some 49) #[true, true, true, false, true, true, true, false, false, false, false] #[true, false, true, false, true, true, true, true, false, false, false] rfl rfl rfl rfl (by kernel_rfl) (by decide) (by decide) (fun K hK => ?_) (fun K hK => ?_)
        · skip
          refine value_ (w1 := ?_) (v := ?_) (by rfl) rfl ?_ ?_
          rotate_left 2
          · go_simp
            constructor
            · rfl
            · rfl
          skip
          refine hK.out _ _ ⟨(H3.out.below (show Below w3.heap.size w3 (w3.drew.alloc (.cells #[] 48)) from (below_alloc (below_drew (Below.refl _ _)) (.cells #[] 48)))).cells.1, (H3.out.below (show Below w3.heap.size w3 (w3.drew.alloc (.cells #[] 48)) from (below_alloc (below_drew (Below.refl _ _)) (.cells #[] 48)))).cells.2.1, (H3.out.below (show Below w3.heap.size w3 (w3.drew.alloc (.cells #[] 48)) from (below_alloc (below_drew (Below.refl _ _)) (.cells #[] 48)))).cells.2.2.1⟩ (fun hHeld => ?_)
          clear hK K
          refine norm_ (a' := ?_) ?_ ?_
          rotate_left
          · show Act.put _ (some 43) _ = _
            simp only [Act.put, List.setIfInBounds_toArray, List.set_cons_zero, List.set_cons_succ, i64_w, i32_w]
            rfl
          refine two_ (i := 3) (j := 7) (Ni := some 45) (Nj := some 49) #[true, true, true, true, true, true, true, false, false, false, false] #[true, true, true, false, true, true, true, true, false, false, false] rfl rfl rfl rfl (by kernel_rfl) (by decide) (by decide) (fun K hK => ?_) (fun K hK => ?_)
          · skip
            refine Kd.N_append_rows_step kE8 (w0 := w3) w3.heap.size (by rfl) (.tmp 43) (.tmp 44) 32 48 _ 40 (by rfl) Try.underlying32 infoE8 rfl (by decide) (by omega) (.slice (some ⟨w3.heap.size, 0, none⟩) 0 0) [] L1 Ao1 _ co1 (okS P w) (fun k => okS P w k ∧ k < w3.heap.size) (by rfl) (by rfl) (emptyE' w3.drew w3.heap.size w3.heap.size _ (Nat.le_refl _) rfl (okS_new (by have := HSZ; omega))) (Kd.F_below (Kd.F_bound H3.out.ro.F.1) (show Below w3.heap.size w3 (w3.drew.alloc (.cells #[] 48)) from (below_alloc (below_drew (Below.refl _ _)) (.cells #[] 48)))) (fun k hk => ⟨hk.1, fun h => by have := hk.2; simp [Value.ownBlock] at h; omega⟩) (fun k hk => okS_new (by have h2 := Nat.le_trans ((show Below w3.heap.size w3 (w3.drew.alloc (.cells #[] 48)) from (below_alloc (below_drew (Below.refl _ _)) (.cells #[] 48)))).size hk; have := HSZ; omega)) (show Below w3.heap.size w3 (w3.drew.alloc (.cells #[] 48)) from (below_alloc (below_drew (Below.refl _ _)) (.cells #[] 48))) (show Below w3.heap.size w3 (w3.drew.alloc (.cells #[] 48)) from (below_alloc (below_drew (Below.refl _ _)) (.cells #[] 48))).size (by simp; have := HLL1.out; omega) ?_
            intro v4 w4 ho hb hg hat
            rw [List.nil_append] at ho
            have HN4 := Aside0.mk ho
            have HB4 := Aside0.mk hb
            clear ho hb hg hat
            refine hK.out _ _ ⟨(H3.out.below HB4.out).cells.1, (H3.out.below HB4.out).cells.2.1, (H3.out.below HB4.out).cells.2.2.1⟩ (fun hHeld => ?_)
            clear hK K
            refine norm_ (a' := ?_) ?_ ?_
            rotate_left
            · show Act.put _ (some 45) _ = _
              simp only [Act.put, List.setIfInBounds_toArray, List.set_cons_zero, List.set_cons_succ, i64_w, i32_w]
              rfl
            refine one_ (i := 7) (N := some 49) #[true, true, true, true, true, true, true, true, false, false, false] rfl rfl (by kernel_rfl) (by decide) (fun K hK => ?_)
            refine value_ (w1 := ?_) (v := ?_) (by rfl) rfl ?_ ?_
            rotate_left 2
            · go_simp
              constructor
              · rfl
              · rfl
            skip
            refine hK.out _ _ ⟨(H3.out.below (below_alloc HB4.out (.cells #[.int .i64 2, .int .i64 26, .slice none 0 0] 48))).cells.1, (H3.out.below (below_alloc HB4.out (.cells #[.int .i64 2, .int .i64 26, .slice none 0 0] 48))).cells.2.1, (H3.out.below (below_alloc HB4.out (.cells #[.int .i64 2, .int .i64 26, .slice none 0 0] 48))).cells.2.2.1⟩ (fun hHeld => ?_)
            clear hK K
            refine norm_ (a' := ?_) ?_ ?_
            rotate_left
            · show Act.put _ (some 49) _ = _
              simp only [Act.put, List.setIfInBounds_toArray, List.set_cons_zero, List.set_cons_succ, i64_w, i32_w]
              rfl
            exact norm_ (by simp only [putAll, Act.put, List.setIfInBounds_toArray, List.set_cons_zero, List.set_cons_succ]) (hCont ((.slice (some ⟨w3.heap.size, 0, none⟩) 0 0), v4, w4.heap.size) _ ⟨Kd.N_alloc HN4.out _, evNil8 w4 2 26, fun h => Nat.lt_irrefl _ (Kd.N_lt HN4.out _ h.symm), by rw [alloc_size1]; exact Nat.lt_succ_self _, HB4.out.size, below_alloc HB4.out _⟩)
          · skip
            refine value_ (w1 := ?_) (v := ?_) (by rfl) rfl ?_ ?_
            rotate_left 2
            · go_simp
              constructor
              · rfl
              · rfl
            skip
            refine hK.out _ _ ⟨(H3.out.below (show Below w3.heap.size w3 ((w3.drew.alloc (.cells #[] 48)).alloc (.cells #[.int .i64 2, .int .i64 26, .slice none 0 0] 48)) from (below_alloc (below_alloc (below_drew (Below.refl _ _)) (.cells #[] 48)) (.cells #[.int .i64 2, .int .i64 26, .slice none 0 0] 48)))).cells.1, (H3.out.below (show Below w3.heap.size w3 ((w3.drew.alloc (.cells #[] 48)).alloc (.cells #[.int .i64 2, .int .i64 26, .slice none 0 0] 48)) from (below_alloc (below_alloc (below_drew (Below.refl _ _)) (.cells #[] 48)) (.cells #[.int .i64 2, .int .i64 26, .slice none 0 0] 48)))).cells.2.1, (H3.out.below (show Below w3.heap.size w3 ((w3.drew.alloc (.cells #[] 48)).alloc (.cells #[.int .i64 2, .int .i64 26, .slice none 0 0] 48)) from (below_alloc (below_alloc (below_drew (Below.refl _ _)) (.cells #[] 48)) (.cells #[.int .i64 2, .int .i64 26, .slice none 0 0] 48)))).cells.2.2.1⟩ (fun hHeld => ?_)
            clear hK K
            refine norm_ (a' := ?_) ?_ ?_
            rotate_left
            · show Act.put _ (some 49) _ = _
              simp only [Act.put, List.setIfInBounds_toArray, List.set_cons_zero, List.set_cons_succ, i64_w, i32_w]
              rfl
            refine one_ (i := 3) (N := some 45) #[true, true, true, true, true, true, true, true, false, false, false] rfl rfl (by kernel_rfl) (by decide) (fun K hK => ?_)
            refine Kd.N_append_rows_step kE8 (w0 := w3) w3.heap.size (by rfl) (.tmp 43) (.tmp 44) 32 48 _ 40 (by rfl) Try.underlying32 infoE8 rfl (by decide) (by omega) (.slice (some ⟨w3.heap.size, 0, none⟩) 0 0) [] L1 Ao1 _ co1 (okS P w) (fun k => okS P w k ∧ k < w3.heap.size) (by rfl) (by rfl) (Kd.N_alloc (emptyE' w3.drew w3.heap.size w3.heap.size _ (Nat.le_refl _) rfl (okS_new (by have := HSZ; omega))) (.cells #[.int .i64 2, .int .i64 26, .slice none 0 0] 48)) (Kd.F_below (Kd.F_bound H3.out.ro.F.1) (show Below w3.heap.size w3 ((w3.drew.alloc (.cells #[] 48)).alloc (.cells #[.int .i64 2, .int .i64 26, .slice none 0 0] 48)) from (below_alloc (below_alloc (below_drew (Below.refl _ _)) (.cells #[] 48)) (.cells #[.int .i64 2, .int .i64 26, .slice none 0 0] 48)))) (fun k hk => ⟨hk.1, fun h => by have := hk.2; simp [Value.ownBlock] at h; omega⟩) (fun k hk => okS_new (by have h2 := Nat.le_trans ((show Below w3.heap.size w3 ((w3.drew.alloc (.cells #[] 48)).alloc (.cells #[.int .i64 2, .int .i64 26, .slice none 0 0] 48)) from (below_alloc (below_alloc (below_drew (Below.refl _ _)) (.cells #[] 48)) (.cells #[.int .i64 2, .int .i64 26, .slice none 0 0] 48)))).size hk; have := HSZ; omega)) (show Below w3.heap.size w3 ((w3.drew.alloc (.cells #[] 48)).alloc (.cells #[.int .i64 2, .int .i64 26, .slice none 0 0] 48)) from (below_alloc (below_alloc (below_drew (Below.refl _ _)) (.cells #[] 48)) (.cells #[.int .i64 2, .int .i64 26, .slice none 0 0] 48))) (show Below w3.heap.size w3 ((w3.drew.alloc (.cells #[] 48)).alloc (.cells #[.int .i64 2, .int .i64 26, .slice none 0 0] 48)) from (below_alloc (below_alloc (below_drew (Below.refl _ _)) (.cells #[] 48)) (.cells #[.int .i64 2, .int .i64 26, .slice none 0 0] 48))).size (by simp; have := HLL1.out; omega) ?_
            intro v4 w4 ho hb hg hat
            rw [List.nil_append] at ho
            have HN4 := Aside0.mk ho
            have HB4 := Aside0.mk hb
            have HF4 := Aside0.mk (fork_end (evNil8' (w3.drew.alloc (.cells #[] 48)) 2 26 (w3.heap.size + 1) (drew_size _ _).symm) (by rw [alloc_size1, drew_size]; omega) (by simp [Value.ownBlock]) hg hat)
            have HS4 := Aside0.mk hg.size
            clear ho hb hg hat
            refine hK.out _ _ ⟨(H3.out.below HB4.out).cells.1, (H3.out.below HB4.out).cells.2.1, (H3.out.below HB4.out).cells.2.2.1⟩ (fun hHeld => ?_)
            clear hK K
            refine norm_ (a' := ?_) ?_ ?_
            rotate_left
            · show Act.put _ (some 45) _ = _
              simp only [Act.put, List.setIfInBounds_toArray, List.set_cons_zero, List.set_cons_succ, i64_w, i32_w]
              rfl
            exact norm_ (by simp only [putAll, Act.put, List.setIfInBounds_toArray, List.set_cons_zero, List.set_cons_succ]) (hCont ((.slice (some ⟨w3.heap.size, 0, none⟩) 0 0), v4, w3.heap.size + 1) _ ⟨HN4.out, HF4.out.1, HF4.out.2, by have := HS4.out; rw [size2] at this; exact Nat.lt_of_lt_of_le (Nat.lt_succ_self _) this, Nat.le_succ _, HB4.out⟩)
        · skip
          refine value_ (w1 := ?_) (v := ?_) (by rfl) rfl ?_ ?_
          rotate_left 2
          · go_simp
            constructor
            · rfl
            · rfl
          skip
          refine hK.out _ _ ⟨(H3.out.below (show Below w3.heap.size w3 (w3.drew.alloc (.cells #[.int .i64 2, .int .i64 26, .slice none 0 0] 48)) from (below_alloc (below_drew (Below.refl _ _)) (.cells #[.int .i64 2, .int .i64 26, .slice none 0 0] 48)))).cells.1, (H3.out.below (show Below w3.heap.size w3 (w3.drew.alloc (.cells #[.int .i64 2, .int .i64 26, .slice none 0 0] 48)) from (below_alloc (below_drew (Below.refl _ _)) (.cells #[.int .i64 2, .int .i64 26, .slice none 0 0] 48)))).cells.2.1, (H3.out.below (show Below w3.heap.size w3 (w3.drew.alloc (.cells #[.int .i64 2, .int .i64 26, .slice none 0 0] 48)) from (below_alloc (below_drew (Below.refl _ _)) (.cells #[.int .i64 2, .int .i64 26, .slice none 0 0] 48)))).cells.2.2.1⟩ (fun hHeld => ?_)
          clear hK K
          refine norm_ (a' := ?_) ?_ ?_
          rotate_left
          · show Act.put _ (some 49) _ = _
            simp only [Act.put, List.setIfInBounds_toArray, List.set_cons_zero, List.set_cons_succ, i64_w, i32_w]
            rfl
          refine one_ (i := 1) (N := some 43) #[true, true, true, false, true, true, true, true, false, false, false] rfl rfl (by kernel_rfl) (by decide) (fun K hK => ?_)
          refine value_ (w1 := ?_) (v := ?_) (by rfl) rfl ?_ ?_
          rotate_left 2
          · go_simp
            constructor
            · rfl
            · rfl
          skip
          refine hK.out _ _ ⟨(H3.out.below (show Below w3.heap.size w3 ((w3.drew.alloc (.cells #[.int .i64 2, .int .i64 26, .slice none 0 0] 48)).alloc (.cells #[] 48)) from (below_alloc (below_alloc (below_drew (Below.refl _ _)) (.cells #[.int .i64 2, .int .i64 26, .slice none 0 0] 48)) (.cells #[] 48)))).cells.1, (H3.out.below (show Below w3.heap.size w3 ((w3.drew.alloc (.cells #[.int .i64 2, .int .i64 26, .slice none 0 0] 48)).alloc (.cells #[] 48)) from (below_alloc (below_alloc (below_drew (Below.refl _ _)) (.cells #[.int .i64 2, .int .i64 26, .slice none 0 0] 48)) (.cells #[] 48)))).cells.2.1, (H3.out.below (show Below w3.heap.size w3 ((w3.drew.alloc (.cells #[.int .i64 2, .int .i64 26, .slice none 0 0] 48)).alloc (.cells #[] 48)) from (below_alloc (below_alloc (below_drew (Below.refl _ _)) (.cells #[.int .i64 2, .int .i64 26, .slice none 0 0] 48)) (.cells #[] 48)))).cells.2.2.1⟩ (fun hHeld => ?_)
          clear hK K
          refine norm_ (a' := ?_) ?_ ?_
          rotate_left
          · show Act.put _ (some 43) _ = _
            simp only [Act.put, List.setIfInBounds_toArray, List.set_cons_zero, List.set_cons_succ, i64_w, i32_w]
            rfl
          refine one_ (i := 3) (N := some 45) #[true, true, true, true, true, true, true, true, false, false, false] rfl rfl (by kernel_rfl) (by decide) (fun K hK => ?_)
          refine Kd.N_append_rows_step kE8 (w0 := w3) w3.heap.size (by rfl) (.tmp 43) (.tmp 44) 32 48 _ 40 (by rfl) Try.underlying32 infoE8 rfl (by decide) (by omega) (.slice (some ⟨w3.heap.size + 1, 0, none⟩) 0 0) [] L1 Ao1 _ co1 (okS P w) (fun k => okS P w k ∧ k < w3.heap.size) (by rfl) (by rfl) (emptyE' (w3.drew.alloc (.cells #[.int .i64 2, .int .i64 26, .slice none 0 0] 48)) w3.heap.size (w3.heap.size + 1) _ (by rw [drew_size]; omega) (drew_size _ _).symm (okS_new (by have := HSZ; omega))) (Kd.F_below (Kd.F_bound H3.out.ro.F.1) (show Below w3.heap.size w3 ((w3.drew.alloc (.cells #[.int .i64 2, .int .i64 26, .slice none 0 0] 48)).alloc (.cells #[] 48)) from (below_alloc (below_alloc (below_drew (Below.refl _ _)) (.cells #[.int .i64 2, .int .i64 26, .slice none 0 0] 48)) (.cells #[] 48)))) (fun k hk => ⟨hk.1, fun h => by have := hk.2; simp [Value.ownBlock] at h; omega⟩) (fun k hk => okS_new (by have h2 := Nat.le_trans ((show Below w3.heap.size w3 ((w3.drew.alloc (.cells #[.int .i64 2, .int .i64 26, .slice none 0 0] 48)).alloc (.cells #[] 48)) from (below_alloc (below_alloc (below_drew (Below.refl _ _)) (.cells #[.int .i64 2, .int .i64 26, .slice none 0 0] 48)) (.cells #[] 48)))).size hk; have := HSZ; omega)) (show Below w3.heap.size w3 ((w3.drew.alloc (.cells #[.int .i64 2, .int .i64 26, .slice none 0 0] 48)).alloc (.cells #[] 48)) from (below_alloc (below_alloc (below_drew (Below.refl _ _)) (.cells #[.int .i64 2, .int .i64 26, .slice none 0 0] 48)) (.cells #[] 48))) (show Below w3.heap.size w3 ((w3.drew.alloc (.cells #[.int .i64 2, .int .i64 26, .slice none 0 0] 48)).alloc (.cells #[] 48)) from (below_alloc (below_alloc (below_drew (Below.refl _ _)) (.cells #[.int .i64 2, .int .i64 26, .slice none 0 0] 48)) (.cells #[] 48))).size (by simp; have := HLL1.out; omega) ?_
          intro v4 w4 ho hb hg hat
          rw [List.nil_append] at ho
          have HN4 := Aside0.mk ho
          have HB4 := Aside0.mk hb
          have HF4 := Aside0.mk (fork_end (Kd.F_alloc (evNil8' w3.drew 2 26 w3.heap.size rfl) (.cells #[] 48)) (by rw [alloc_size1, drew_size]; omega) (by simp [Value.ownBlock]) hg hat)
          have HS4 := Aside0.mk hg.size
          clear ho hb hg hat
          refine hK.out _ _ ⟨(H3.out.below HB4.out).cells.1, (H3.out.below HB4.out).cells.2.1, (H3.out.below HB4.out).cells.2.2.1⟩ (fun hHeld => ?_)
          clear hK K
          refine norm_ (a' := ?_) ?_ ?_
          rotate_left
          · show Act.put _ (some 45) _ = _
            simp only [Act.put, List.setIfInBounds_toArray, List.set_cons_zero, List.set_cons_succ, i64_w, i32_w]
            rfl
          exact norm_ (by simp only [putAll, Act.put, List.setIfInBounds_toArray, List.set_cons_zero, List.set_cons_succ]) (hCont ((.slice (some ⟨w3.heap.size + 1, 0, none⟩) 0 0), v4, w3.heap.size) _ ⟨HN4.out, HF4.out.1, HF4.out.2, by have := HS4.out; rw [size2] at this; exact Nat.lt_of_lt_of_le (Nat.lt_succ_of_lt (Nat.lt_succ_self _)) this, Nat.le_refl _, HB4.out⟩)
      rintro ⟨vE, v5, g5⟩ w5 ⟨hN5, hF5, hne5, hlt5, hge5, hb5⟩
      dsimp only at hN5 hF5 hne5 hlt5 hge5
      have hHeld := (And.intro (H3.out.below hb5).cells.1 (And.intro (H3.out.below hb5).cells.2.1 (H3.out.below hb5).cells.2.2.1))
      have HN5 := Aside0.mk hN5
      have HF5 := Aside0.mk (And.intro hF5 (And.intro hne5 (And.intro hlt5 (And.intro hge5 hb5))))
      clear hN5 hF5 hne5 hlt5 hge5 hb5
      refine norm_ (a' := ?_) ?_ ?_
      rotate_left
      · simp only [putAll, Act.put, List.setIfInBounds_toArray, List.set_cons_zero, List.set_cons_succ]
        rfl
      refine one_ (i := 8) (N := some 50) #[true, true, true, true, true, true, true, true, true, false, false] rfl rfl (by kernel_rfl) (by decide) (fun K hK => ?_)
      refine Kd.N_append_rows_step kE8 (w0 := w3) w3.heap.size (by rfl) (.tmp 45) (.tmp 49) 32 48 _ 40 (by rfl) Try.underlying32 infoE8 rfl (by decide) (by omega) v5 L1 [(⟨2, 26, []⟩ : S48)] (some ⟨g5, 0, none⟩) 1 1 (okS P w) _ (by rfl) (by rfl) HN5.out HF5.out.1 (fun k hk => ⟨okS_new (by have := HSZ; have := HF5.out.2.2.2.1; omega), by rw [hk]; exact HF5.out.2.1⟩) (fun k hk => okS_new (by have h2 := Nat.le_trans HF5.out.2.2.2.2.size hk; have := HSZ; omega)) HF5.out.2.2.2.2 HF5.out.2.2.2.2.size (by have := HLL1.out; omega) ?_
      intro v6 w6 ho hb hg hat
      rw [HL2.out] at ho
      have HB6 := Aside0.mk hb
      have H6 := Aside0.mk ((H3.out.below hb).out (RD.ofN ho))
      have HO6 := Aside0.mk ho
      clear ho hb hg hat
      refine hK.out _ _ ⟨H6.out.cells.1, H6.out.cells.2.1, H6.out.cells.2.2.1⟩ (fun hHeld => ?_)
      clear hK K
      refine norm_ (a' := ?_) ?_ ?_
      rotate_left
      · show Act.put _ (some 50) _ = _
        simp only [Act.put, List.setIfInBounds_toArray, List.set_cons_zero, List.set_cons_succ, i64_w, i32_w]
        rfl
      refine last_ (i := 9) (N := none) #[true, true, true, true, true, true, true, true, true, true, false] rfl rfl (by kernel_rfl) (by decide) (fun K hK => ?_)
      refine skip_ (w1 := pOut w6 (w.heap.size + 1) 0 (.slice An n.length cn) (.slice Ah1 0 ch1)) (by rfl) rfl (exec_put (.tmp 6) (.tmp 42) rfl 0 _ _ rfl rfl H6.out.b6 rfl rfl rfl) ?_
      have HA := Aside0.mk (H6.out.ans 0 H6.out.rn H6.out.rh)
      refine hK.out _ _ ?_
      clear hK K
      refine pure_ (i := 10) (N := some 7) (v := ?_) (a' := ?_) #[true, true, true, true, true, true, true, true, true, true, true] rfl rfl (by kernel_rfl) (fun _ _ _ h => h) (Or.inl ⟨by rfl, ?_⟩) ?_ ?_
      rotate_left
      · intro w'
        go_simp
        with_reducible rfl
      rotate_left
      · simp only [Act.put, List.setIfInBounds_toArray, List.set_cons_zero, List.set_cons_succ, i64_w, i32_w]
        rfl
      refine done_ (by kernel_rfl) ?_
      all_goals go_wp2
      all_goals refine bodyPost_ret (results_ct rfl _ _ (w.heap.size + 1) 31 _ (0, 0) _ rfl HA.out.1 Try.underlying31 rfl rfl) (by rfl) ?_
      all_goals exact HA.out.2
    have T26 : (x == 26) = false := by rw [beq_eq_false_iff_ne]; exact c26
    by_cases c32 : x < 32
    · have T32 : decide (x < 32) = true := decide_eq_true c32
      have hv : stepV ⟨st, n, h⟩ x = (⟨st, n, []⟩, flushV h ++ [⟨2, x, []⟩]) := by unfold stepV; rw [if_pos cA, if_neg c27, if_neg (fun h => h.elim c24 c26)]
      rw [hv] at hs
      injection hs with hs1 hs2
      injection hs1 with h1 h2 h3
      subst h1 h2 h3 hs2
      subst hL'
      rw [List.map_append, ← List.append_assoc, hL1]
      change Calls _ _ _ _ fun e w' => RPost P w w' e _ _ _ (L1 ++ [(⟨2, x, []⟩ : S48)])
      obtain ⟨L2, hL2⟩ : ∃ L2, L1 ++ [(⟨2, x, []⟩ : S48)] = L2 := ⟨_, rfl⟩
      rw [hL2]
      have HL2 := Aside0.mk hL2
      clear hL2
      clear hL1 hv
      go_enter Try.func20, Try.ntmps20
      go_wp2_with (first | (go_at_call 28; go_must (refine (RQ_flush HQ.out HLL.out HL1.out).mono ?_); rintro e w1 ⟨Ah1, ch1, Ao1, co1, rfl, hD, hQ⟩; have D1 := Aside0.mk hD; have H1 := Aside0.mk hQ; clear hD hQ) | ((with_reducible refine gate_ (.store 31 (.tmp 3) (.tmp 33)) rfl ?_); go_must (refine step_put (.tmp 3) (.tmp 33) rfl rfl rfl st _ _ rfl rfl H1.out.b3 rfl rfl rfl ?_); intro w2 hw; have H2 := Aside0.mk (H1.out.whole st H1.out.rn D1.out); rw [← hw] at H2; clear hw; obtain ⟨hc20, hc21, hc22, hf20, hf21, hf22⟩ := H2.out.cells))
      have HSZ := H2.out.sz
      refine start_ (n := 11) (S := fun w' => w'.cell? ⟨w.heap.size, 0, none⟩ = some (.int .i64 st) ∧ w'.cell? ⟨w.heap.size, 1, none⟩ = some (.slice An n.length cn) ∧ w'.cell? ⟨w.heap.size, 2, none⟩ = some (.slice Ah1 0 ch1)) (ds := [9]) #[false, false, false, false, false, false, false, false, false, false, false] (by kernel_rfl) rfl rfl ⟨H2.out.cells.1, H2.out.cells.2.1, H2.out.cells.2.2.1⟩ (fun hHeld => ?_)
      refine pure_ (i := 2) (N := some 44) (v := ?_) (a' := ?_) #[false, false, true, false, false, false, false, false, false, false, false] rfl rfl (by kernel_rfl) (fun _ _ _ h => h) (Or.inl ⟨by rfl, ?_⟩) ?_ ?_
      rotate_left
      · intro w'
        go_simp
        with_reducible rfl
      rotate_left
      · simp only [Act.put, List.setIfInBounds_toArray, List.set_cons_zero, List.set_cons_succ, i64_w, i32_w]
        rfl
      refine pure_ (i := 4) (N := some 46) (v := ?_) (a' := ?_) #[false, false, true, false, true, false, false, false, false, false, false] rfl rfl (by kernel_rfl) (fun _ _ _ h => h) (Or.inl ⟨by rfl, ?_⟩) ?_ ?_
      rotate_left
      · intro w'
        go_simp
        with_reducible rfl
      rotate_left
      · simp only [Act.put, List.setIfInBounds_toArray, List.set_cons_zero, List.set_cons_succ, i64_w, i32_w]
        rfl
      refine pure_ (i := 5) (N := some 47) (v := ?_) (a' := ?_) #[false, false, true, false, true, true, false, false, false, false, false] rfl rfl (by kernel_rfl) (fun _ _ _ h => h) (Or.inl ⟨by rfl, ?_⟩) ?_ ?_
      rotate_left
      · intro w'
        go_simp
        with_reducible rfl
      rotate_left
      · simp only [Act.put, List.setIfInBounds_toArray, List.set_cons_zero, List.set_cons_succ, i64_w, i32_w]
        rfl
      refine pure_ (i := 6) (N := some 48) (v := ?_) (a' := ?_) #[false, false, true, false, true, true, true, false, false, false, false] rfl rfl (by kernel_rfl) (fun _ _ _ h => h) (Or.inl ⟨by rfl, ?_⟩) ?_ ?_
      rotate_left
      · intro w'
        go_simp
        with_reducible rfl
      rotate_left
      · simp only [Act.put, List.setIfInBounds_toArray, List.set_cons_zero, List.set_cons_succ, i64_w, i32_w]
        rfl
      refine take_ (i := 0) (N := some 42) (v := ?_) (a' := ?_) #[true, false, true, false, true, true, true, false, false, false, false] rfl rfl (by kernel_rfl) (fun _ _ _ h => h) (Or.inl ⟨by rfl, ?_⟩) hHeld ?_ ?_
      rotate_left
      · rintro w' ⟨s0, s1, s2⟩
        go_simp
        with_reducible rfl
      rotate_left
      · simp only [Act.put, List.setIfInBounds_toArray, List.set_cons_zero, List.set_cons_succ, i64_w, i32_w]
        rfl
      refine join_ (σ := Value × Value × Nat) 3 #[true, true, true, true, true, true, true, true, false, false, false] (fun s => [(43, s.1), (45, s.2.1), (49, .slice (some ⟨s.2.2, 0, none⟩) 1 1)]) (fun s w' => Kd.N kE8 48 w' w2.heap.size (okS P w) s.2.1 L1 ∧ Kd.F kE8 w' (fun k => k = s.2.2) (some ⟨s.2.2, 0, none⟩) 1 [(⟨2, x, []⟩ : S48)] ∧ some s.2.2 ≠ s.2.1.ownBlock ∧ s.2.2 < w'.heap.size ∧ w2.heap.size ≤ s.2.2 ∧ Below w2.heap.size w2 w') ?_ ?_
      rotate_left
      · intro hCont
        refine two_ (i := 1) (j := 7) (Ni := some 43) (Nj := some 49) #[true, true, true, false, true, true, true, false, false, false, false] #[true, false, true, false, true, true, true, true, false, false, false] rfl rfl rfl rfl (by kernel_rfl) (by decide) (by decide) (fun K hK => ?_) (fun K hK => ?_)
        · skip
          refine value_ (w1 := ?_) (v := ?_) (by rfl) rfl ?_ ?_
          rotate_left 2
          · go_simp
            constructor
            · rfl
            · rfl
          skip
          refine hK.out _ _ ⟨(H2.out.below (show Below w2.heap.size w2 (w2.drew.alloc (.cells #[] 48)) from (below_alloc (below_drew (Below.refl _ _)) (.cells #[] 48)))).cells.1, (H2.out.below (show Below w2.heap.size w2 (w2.drew.alloc (.cells #[] 48)) from (below_alloc (below_drew (Below.refl _ _)) (.cells #[] 48)))).cells.2.1, (H2.out.below (show Below w2.heap.size w2 (w2.drew.alloc (.cells #[] 48)) from (below_alloc (below_drew (Below.refl _ _)) (.cells #[] 48)))).cells.2.2.1⟩ (fun hHeld => ?_)
          clear hK K
          refine norm_ (a' := ?_) ?_ ?_
          rotate_left
          · show Act.put _ (some 43) _ = _
            simp only [Act.put, List.setIfInBounds_toArray, List.set_cons_zero, List.set_cons_succ, i64_w, i32_w]
            rfl
          refine two_ (i := 3) (j := 7) (Ni := some 45) (Nj := some 49) #[true, true, true, true, true, true, true, false, false, false, false] #[true, true, true, false, true, true, true, true, false, false, false] rfl rfl rfl rfl (by kernel_rfl) (by decide) (by decide) (fun K hK => ?_) (fun K hK => ?_)
          · skip
            refine Kd.N_append_rows_step kE8 (w0 := w2) w2.heap.size (by rfl) (.tmp 43) (.tmp 44) 32 48 _ 40 (by rfl) Try.underlying32 infoE8 rfl (by decide) (by omega) (.slice (some ⟨w2.heap.size, 0, none⟩) 0 0) [] L1 Ao1 _ co1 (okS P w) (fun k => okS P w k ∧ k < w2.heap.size) (by rfl) (by rfl) (emptyE' w2.drew w2.heap.size w2.heap.size _ (Nat.le_refl _) rfl (okS_new (by have := HSZ; omega))) (Kd.F_below (Kd.F_bound H2.out.ro.F.1) (show Below w2.heap.size w2 (w2.drew.alloc (.cells #[] 48)) from (below_alloc (below_drew (Below.refl _ _)) (.cells #[] 48)))) (fun k hk => ⟨hk.1, fun h => by have := hk.2; simp [Value.ownBlock] at h; omega⟩) (fun k hk => okS_new (by have h2 := Nat.le_trans ((show Below w2.heap.size w2 (w2.drew.alloc (.cells #[] 48)) from (below_alloc (below_drew (Below.refl _ _)) (.cells #[] 48)))).size hk; have := HSZ; omega)) (show Below w2.heap.size w2 (w2.drew.alloc (.cells #[] 48)) from (below_alloc (below_drew (Below.refl _ _)) (.cells #[] 48))) (show Below w2.heap.size w2 (w2.drew.alloc (.cells #[] 48)) from (below_alloc (below_drew (Below.refl _ _)) (.cells #[] 48))).size (by simp; have := HLL1.out; omega) ?_
            intro v4 w4 ho hb hg hat
            rw [List.nil_append] at ho
            have HN4 := Aside0.mk ho
            have HB4 := Aside0.mk hb
            clear ho hb hg hat
            refine hK.out _ _ ⟨(H2.out.below HB4.out).cells.1, (H2.out.below HB4.out).cells.2.1, (H2.out.below HB4.out).cells.2.2.1⟩ (fun hHeld => ?_)
            clear hK K
            refine norm_ (a' := ?_) ?_ ?_
            rotate_left
            · show Act.put _ (some 45) _ = _
              simp only [Act.put, List.setIfInBounds_toArray, List.set_cons_zero, List.set_cons_succ, i64_w, i32_w]
              rfl
            refine one_ (i := 7) (N := some 49) #[true, true, true, true, true, true, true, true, false, false, false] rfl rfl (by kernel_rfl) (by decide) (fun K hK => ?_)
            refine value_ (w1 := ?_) (v := ?_) (by rfl) rfl ?_ ?_
            rotate_left 2
            · go_simp
              constructor
              · rfl
              · rfl
            skip
            refine hK.out _ _ ⟨(H2.out.below (below_alloc HB4.out (.cells #[.int .i64 2, .int .i64 x, .slice none 0 0] 48))).cells.1, (H2.out.below (below_alloc HB4.out (.cells #[.int .i64 2, .int .i64 x, .slice none 0 0] 48))).cells.2.1, (H2.out.below (below_alloc HB4.out (.cells #[.int .i64 2, .int .i64 x, .slice none 0 0] 48))).cells.2.2.1⟩ (fun hHeld => ?_)
            clear hK K
            refine norm_ (a' := ?_) ?_ ?_
            rotate_left
            · show Act.put _ (some 49) _ = _
              simp only [Act.put, List.setIfInBounds_toArray, List.set_cons_zero, List.set_cons_succ, i64_w, i32_w]
              rfl
            exact norm_ (by simp only [putAll, Act.put, List.setIfInBounds_toArray, List.set_cons_zero, List.set_cons_succ]) (hCont ((.slice (some ⟨w2.heap.size, 0, none⟩) 0 0), v4, w4.heap.size) _ ⟨Kd.N_alloc HN4.out _, evNil8 w4 2 x, fun h => Nat.lt_irrefl _ (Kd.N_lt HN4.out _ h.symm), by rw [alloc_size1]; exact Nat.lt_succ_self _, HB4.out.size, below_alloc HB4.out _⟩)
          · skip
            refine value_ (w1 := ?_) (v := ?_) (by rfl) rfl ?_ ?_
            rotate_left 2
            · go_simp
              constructor
              · rfl
              · rfl
            skip
            refine hK.out _ _ ⟨(H2.out.below (show Below w2.heap.size w2 ((w2.drew.alloc (.cells #[] 48)).alloc (.cells #[.int .i64 2, .int .i64 x, .slice none 0 0] 48)) from (below_alloc (below_alloc (below_drew (Below.refl _ _)) (.cells #[] 48)) (.cells #[.int .i64 2, .int .i64 x, .slice none 0 0] 48)))).cells.1, (H2.out.below (show Below w2.heap.size w2 ((w2.drew.alloc (.cells #[] 48)).alloc (.cells #[.int .i64 2, .int .i64 x, .slice none 0 0] 48)) from (below_alloc (below_alloc (below_drew (Below.refl _ _)) (.cells #[] 48)) (.cells #[.int .i64 2, .int .i64 x, .slice none 0 0] 48)))).cells.2.1, (H2.out.below (show Below w2.heap.size w2 ((w2.drew.alloc (.cells #[] 48)).alloc (.cells #[.int .i64 2, .int .i64 x, .slice none 0 0] 48)) from (below_alloc (below_alloc (below_drew (Below.refl _ _)) (.cells #[] 48)) (.cells #[.int .i64 2, .int .i64 x, .slice none 0 0] 48)))).cells.2.2.1⟩ (fun hHeld => ?_)
            clear hK K
            refine norm_ (a' := ?_) ?_ ?_
            rotate_left
            · show Act.put _ (some 49) _ = _
              simp only [Act.put, List.setIfInBounds_toArray, List.set_cons_zero, List.set_cons_succ, i64_w, i32_w]
              rfl
            refine one_ (i := 3) (N := some 45) #[true, true, true, true, true, true, true, true, false, false, false] rfl rfl (by kernel_rfl) (by decide) (fun K hK => ?_)
            refine Kd.N_append_rows_step kE8 (w0 := w2) w2.heap.size (by rfl) (.tmp 43) (.tmp 44) 32 48 _ 40 (by rfl) Try.underlying32 infoE8 rfl (by decide) (by omega) (.slice (some ⟨w2.heap.size, 0, none⟩) 0 0) [] L1 Ao1 _ co1 (okS P w) (fun k => okS P w k ∧ k < w2.heap.size) (by rfl) (by rfl) (Kd.N_alloc (emptyE' w2.drew w2.heap.size w2.heap.size _ (Nat.le_refl _) rfl (okS_new (by have := HSZ; omega))) (.cells #[.int .i64 2, .int .i64 x, .slice none 0 0] 48)) (Kd.F_below (Kd.F_bound H2.out.ro.F.1) (show Below w2.heap.size w2 ((w2.drew.alloc (.cells #[] 48)).alloc (.cells #[.int .i64 2, .int .i64 x, .slice none 0 0] 48)) from (below_alloc (below_alloc (below_drew (Below.refl _ _)) (.cells #[] 48)) (.cells #[.int .i64 2, .int .i64 x, .slice none 0 0] 48)))) (fun k hk => ⟨hk.1, fun h => by have := hk.2; simp [Value.ownBlock] at h; omega⟩) (fun k hk => okS_new (by have h2 := Nat.le_trans ((show Below w2.heap.size w2 ((w2.drew.alloc (.cells #[] 48)).alloc (.cells #[.int .i64 2, .int .i64 x, .slice none 0 0] 48)) from (below_alloc (below_alloc (below_drew (Below.refl _ _)) (.cells #[] 48)) (.cells #[.int .i64 2, .int .i64 x, .slice none 0 0] 48)))).size hk; have := HSZ; omega)) (show Below w2.heap.size w2 ((w2.drew.alloc (.cells #[] 48)).alloc (.cells #[.int .i64 2, .int .i64 x, .slice none 0 0] 48)) from (below_alloc (below_alloc (below_drew (Below.refl _ _)) (.cells #[] 48)) (.cells #[.int .i64 2, .int .i64 x, .slice none 0 0] 48))) (show Below w2.heap.size w2 ((w2.drew.alloc (.cells #[] 48)).alloc (.cells #[.int .i64 2, .int .i64 x, .slice none 0 0] 48)) from (below_alloc (below_alloc (below_drew (Below.refl _ _)) (.cells #[] 48)) (.cells #[.int .i64 2, .int .i64 x, .slice none 0 0] 48))).size (by simp; have := HLL1.out; omega) ?_
            intro v4 w4 ho hb hg hat
            rw [List.nil_append] at ho
            have HN4 := Aside0.mk ho
            have HB4 := Aside0.mk hb
            have HF4 := Aside0.mk (fork_end (evNil8' (w2.drew.alloc (.cells #[] 48)) 2 x (w2.heap.size + 1) (drew_size _ _).symm) (by rw [alloc_size1, drew_size]; omega) (by simp [Value.ownBlock]) hg hat)
            have HS4 := Aside0.mk hg.size
            clear ho hb hg hat
            refine hK.out _ _ ⟨(H2.out.below HB4.out).cells.1, (H2.out.below HB4.out).cells.2.1, (H2.out.below HB4.out).cells.2.2.1⟩ (fun hHeld => ?_)
            clear hK K
            refine norm_ (a' := ?_) ?_ ?_
            rotate_left
            · show Act.put _ (some 45) _ = _
              simp only [Act.put, List.setIfInBounds_toArray, List.set_cons_zero, List.set_cons_succ, i64_w, i32_w]
              rfl
            exact norm_ (by simp only [putAll, Act.put, List.setIfInBounds_toArray, List.set_cons_zero, List.set_cons_succ]) (hCont ((.slice (some ⟨w2.heap.size, 0, none⟩) 0 0), v4, w2.heap.size + 1) _ ⟨HN4.out, HF4.out.1, HF4.out.2, by have := HS4.out; rw [size2] at this; exact Nat.lt_of_lt_of_le (Nat.lt_succ_self _) this, Nat.le_succ _, HB4.out⟩)
        · skip
          refine value_ (w1 := ?_) (v := ?_) (by rfl) rfl ?_ ?_
          rotate_left 2
          · go_simp
            constructor
            · rfl
            · rfl
          skip
          refine hK.out _ _ ⟨(H2.out.below (show Below w2.heap.size w2 (w2.drew.alloc (.cells #[.int .i64 2, .int .i64 x, .slice none 0 0] 48)) from (below_alloc (below_drew (Below.refl _ _)) (.cells #[.int .i64 2, .int .i64 x, .slice none 0 0] 48)))).cells.1, (H2.out.below (show Below w2.heap.size w2 (w2.drew.alloc (.cells #[.int .i64 2, .int .i64 x, .slice none 0 0] 48)) from (below_alloc (below_drew (Below.refl _ _)) (.cells #[.int .i64 2, .int .i64 x, .slice none 0 0] 48)))).cells.2.1, (H2.out.below (show Below w2.heap.size w2 (w2.drew.alloc (.cells #[.int .i64 2, .int .i64 x, .slice none 0 0] 48)) from (below_alloc (below_drew (Below.refl _ _)) (.cells #[.int .i64 2, .int .i64 x, .slice none 0 0] 48)))).cells.2.2.1⟩ (fun hHeld => ?_)
          clear hK K
          refine norm_ (a' := ?_) ?_ ?_
          rotate_left
          · show Act.put _ (some 49) _ = _
            simp only [Act.put, List.setIfInBounds_toArray, List.set_cons_zero, List.set_cons_succ, i64_w, i32_w]
            rfl
          refine one_ (i := 1) (N := some 43) #[true, true, true, false, true, true, true, true, false, false, false] rfl rfl (by kernel_rfl) (by decide) (fun K hK => ?_)
          refine value_ (w1 := ?_) (v := ?_) (by rfl) rfl ?_ ?_
          rotate_left 2
          · go_simp
            constructor
            · rfl
            · rfl
          skip
          refine hK.out _ _ ⟨(H2.out.below (show Below w2.heap.size w2 ((w2.drew.alloc (.cells #[.int .i64 2, .int .i64 x, .slice none 0 0] 48)).alloc (.cells #[] 48)) from (below_alloc (below_alloc (below_drew (Below.refl _ _)) (.cells #[.int .i64 2, .int .i64 x, .slice none 0 0] 48)) (.cells #[] 48)))).cells.1, (H2.out.below (show Below w2.heap.size w2 ((w2.drew.alloc (.cells #[.int .i64 2, .int .i64 x, .slice none 0 0] 48)).alloc (.cells #[] 48)) from (below_alloc (below_alloc (below_drew (Below.refl _ _)) (.cells #[.int .i64 2, .int .i64 x, .slice none 0 0] 48)) (.cells #[] 48)))).cells.2.1, (H2.out.below (show Below w2.heap.size w2 ((w2.drew.alloc (.cells #[.int .i64 2, .int .i64 x, .slice none 0 0] 48)).alloc (.cells #[] 48)) from (below_alloc (below_alloc (below_drew (Below.refl _ _)) (.cells #[.int .i64 2, .int .i64 x, .slice none 0 0] 48)) (.cells #[] 48)))).cells.2.2.1⟩ (fun hHeld => ?_)
          clear hK K
          refine norm_ (a' := ?_) ?_ ?_
          rotate_left
          · show Act.put _ (some 43) _ = _
            simp only [Act.put, List.setIfInBounds_toArray, List.set_cons_zero, List.set_cons_succ, i64_w, i32_w]
            rfl
          refine one_ (i := 3) (N := some 45) #[true, true, true, true, true, true, true, true, false, false, false] rfl rfl (by kernel_rfl) (by decide) (fun K hK => ?_)
          refine Kd.N_append_rows_step kE8 (w0 := w2) w2.heap.size (by rfl) (.tmp 43) (.tmp 44) 32 48 _ 40 (by rfl) Try.underlying32 infoE8 rfl (by decide) (by omega) (.slice (some ⟨w2.heap.size + 1, 0, none⟩) 0 0) [] L1 Ao1 _ co1 (okS P w) (fun k => okS P w k ∧ k < w2.heap.size) (by rfl) (by rfl) (emptyE' (w2.drew.alloc (.cells #[.int .i64 2, .int .i64 x, .slice none 0 0] 48)) w2.heap.size (w2.heap.size + 1) _ (by rw [drew_size]; omega) (drew_size _ _).symm (okS_new (by have := HSZ; omega))) (Kd.F_below (Kd.F_bound H2.out.ro.F.1) (show Below w2.heap.size w2 ((w2.drew.alloc (.cells #[.int .i64 2, .int .i64 x, .slice none 0 0] 48)).alloc (.cells #[] 48)) from (below_alloc (below_alloc (below_drew (Below.refl _ _)) (.cells #[.int .i64 2, .int .i64 x, .slice none 0 0] 48)) (.cells #[] 48)))) (fun k hk => ⟨hk.1, fun h => by have := hk.2; simp [Value.ownBlock] at h; omega⟩) (fun k hk => okS_new (by have h2 := Nat.le_trans ((show Below w2.heap.size w2 ((w2.drew.alloc (.cells #[.int .i64 2, .int .i64 x, .slice none 0 0] 48)).alloc (.cells #[] 48)) from (below_alloc (below_alloc (below_drew (Below.refl _ _)) (.cells #[.int .i64 2, .int .i64 x, .slice none 0 0] 48)) (.cells #[] 48)))).size hk; have := HSZ; omega)) (show Below w2.heap.size w2 ((w2.drew.alloc (.cells #[.int .i64 2, .int .i64 x, .slice none 0 0] 48)).alloc (.cells #[] 48)) from (below_alloc (below_alloc (below_drew (Below.refl _ _)) (.cells #[.int .i64 2, .int .i64 x, .slice none 0 0] 48)) (.cells #[] 48))) (show Below w2.heap.size w2 ((w2.drew.alloc (.cells #[.int .i64 2, .int .i64 x, .slice none 0 0] 48)).alloc (.cells #[] 48)) from (below_alloc (below_alloc (below_drew (Below.refl _ _)) (.cells #[.int .i64 2, .int .i64 x, .slice none 0 0] 48)) (.cells #[] 48))).size (by simp; have := HLL1.out; omega) ?_
          intro v4 w4 ho hb hg hat
          rw [List.nil_append] at ho
          have HN4 := Aside0.mk ho
          have HB4 := Aside0.mk hb
          have HF4 := Aside0.mk (fork_end (Kd.F_alloc (evNil8' w2.drew 2 x w2.heap.size rfl) (.cells #[] 48)) (by rw [alloc_size1, drew_size]; omega) (by simp [Value.ownBlock]) hg hat)
          have HS4 := Aside0.mk hg.size
          clear ho hb hg hat
          refine hK.out _ _ ⟨(H2.out.below HB4.out).cells.1, (H2.out.below HB4.out).cells.2.1, (H2.out.below HB4.out).cells.2.2.1⟩ (fun hHeld => ?_)
          clear hK K
          refine norm_ (a' := ?_) ?_ ?_
          rotate_left
          · show Act.put _ (some 45) _ = _
            simp only [Act.put, List.setIfInBounds_toArray, List.set_cons_zero, List.set_cons_succ, i64_w, i32_w]
            rfl
          exact norm_ (by simp only [putAll, Act.put, List.setIfInBounds_toArray, List.set_cons_zero, List.set_cons_succ]) (hCont ((.slice (some ⟨w2.heap.size + 1, 0, none⟩) 0 0), v4, w2.heap.size) _ ⟨HN4.out, HF4.out.1, HF4.out.2, by have := HS4.out; rw [size2] at this; exact Nat.lt_of_lt_of_le (Nat.lt_succ_of_lt (Nat.lt_succ_self _)) this, Nat.le_refl _, HB4.out⟩)
      rintro ⟨vE, v5, g5⟩ w5 ⟨hN5, hF5, hne5, hlt5, hge5, hb5⟩
      dsimp only at hN5 hF5 hne5 hlt5 hge5
      have hHeld := (And.intro (H2.out.below hb5).cells.1 (And.intro (H2.out.below hb5).cells.2.1 (H2.out.below hb5).cells.2.2.1))
      have HN5 := Aside0.mk hN5
      have HF5 := Aside0.mk (And.intro hF5 (And.intro hne5 (And.intro hlt5 (And.intro hge5 hb5))))
      clear hN5 hF5 hne5 hlt5 hge5 hb5
      refine norm_ (a' := ?_) ?_ ?_
      rotate_left
      · simp only [putAll, Act.put, List.setIfInBounds_toArray, List.set_cons_zero, List.set_cons_succ]
        rfl
      refine one_ (i := 8) (N := some 50) #[true, true, true, true, true, true, true, true, true, false, false] rfl rfl (by kernel_rfl) (by decide) (fun K hK => ?_)
      refine Kd.N_append_rows_step kE8 (w0 := w2) w2.heap.size (by rfl) (.tmp 45) (.tmp 49) 32 48 _ 40 (by rfl) Try.underlying32 infoE8 rfl (by decide) (by omega) v5 L1 [(⟨2, x, []⟩ : S48)] (some ⟨g5, 0, none⟩) 1 1 (okS P w) _ (by rfl) (by rfl) HN5.out HF5.out.1 (fun k hk => ⟨okS_new (by have := HSZ; have := HF5.out.2.2.2.1; omega), by rw [hk]; exact HF5.out.2.1⟩) (fun k hk => okS_new (by have h2 := Nat.le_trans HF5.out.2.2.2.2.size hk; have := HSZ; omega)) HF5.out.2.2.2.2 HF5.out.2.2.2.2.size (by have := HLL1.out; omega) ?_
      intro v6 w6 ho hb hg hat
      rw [HL2.out] at ho
      have HB6 := Aside0.mk hb
      have H6 := Aside0.mk ((H2.out.below hb).out (RD.ofN ho))
      have HO6 := Aside0.mk ho
      clear ho hb hg hat
      refine hK.out _ _ ⟨H6.out.cells.1, H6.out.cells.2.1, H6.out.cells.2.2.1⟩ (fun hHeld => ?_)
      clear hK K
      refine norm_ (a' := ?_) ?_ ?_
      rotate_left
      · show Act.put _ (some 50) _ = _
        simp only [Act.put, List.setIfInBounds_toArray, List.set_cons_zero, List.set_cons_succ, i64_w, i32_w]
        rfl
      refine last_ (i := 9) (N := none) #[true, true, true, true, true, true, true, true, true, true, false] rfl rfl (by kernel_rfl) (by decide) (fun K hK => ?_)
      refine skip_ (w1 := pOut w6 (w.heap.size + 1) st (.slice An n.length cn) (.slice Ah1 0 ch1)) (by rfl) rfl (exec_put (.tmp 6) (.tmp 42) rfl st _ _ rfl rfl H6.out.b6 rfl rfl rfl) ?_
      have HA := Aside0.mk (H6.out.ans st H6.out.rn H6.out.rh)
      refine hK.out _ _ ?_
      clear hK K
      refine pure_ (i := 10) (N := some 7) (v := ?_) (a' := ?_) #[true, true, true, true, true, true, true, true, true, true, true] rfl rfl (by kernel_rfl) (fun _ _ _ h => h) (Or.inl ⟨by rfl, ?_⟩) ?_ ?_
      rotate_left
      · intro w'
        go_simp
        with_reducible rfl
      rotate_left
      · simp only [Act.put, List.setIfInBounds_toArray, List.set_cons_zero, List.set_cons_succ, i64_w, i32_w]
        rfl
      refine done_ (by kernel_rfl) ?_
      all_goals go_wp2
      all_goals refine bodyPost_ret (results_ct rfl _ _ (w.heap.size + 1) 31 _ (0, 0) _ rfl HA.out.1 Try.underlying31 rfl rfl) (by rfl) ?_
      all_goals exact HA.out.2
    · obtain rfl : x = 127 := cA.resolve_left c32
      have hv : stepV ⟨st, n, h⟩ 127 = (⟨st, n, []⟩, flushV h ++ [⟨2, 127, []⟩]) := by unfold stepV; rw [if_pos cA, if_neg c27, if_neg (fun h => h.elim c24 c26)]
      rw [hv] at hs
      injection hs with hs1 hs2
      injection hs1 with h1 h2 h3
      subst h1 h2 h3 hs2
      subst hL'
      rw [List.map_append, ← List.append_assoc, hL1]
      change Calls _ _ _ _ fun e w' => RPost P w w' e _ _ _ (L1 ++ [(⟨2, 127, []⟩ : S48)])
      obtain ⟨L2, hL2⟩ : ∃ L2, L1 ++ [(⟨2, 127, []⟩ : S48)] = L2 := ⟨_, rfl⟩
      rw [hL2]
      have HL2 := Aside0.mk hL2
      clear hL2
      clear hL1 hv
      go_enter Try.func20, Try.ntmps20
      go_wp2_with (first | (go_at_call 28; go_must (refine (RQ_flush HQ.out HLL.out HL1.out).mono ?_); rintro e w1 ⟨Ah1, ch1, Ao1, co1, rfl, hD, hQ⟩; have D1 := Aside0.mk hD; have H1 := Aside0.mk hQ; clear hD hQ) | ((with_reducible refine gate_ (.store 31 (.tmp 3) (.tmp 33)) rfl ?_); go_must (refine step_put (.tmp 3) (.tmp 33) rfl rfl rfl st _ _ rfl rfl H1.out.b3 rfl rfl rfl ?_); intro w2 hw; have H2 := Aside0.mk (H1.out.whole st H1.out.rn D1.out); rw [← hw] at H2; clear hw; obtain ⟨hc20, hc21, hc22, hf20, hf21, hf22⟩ := H2.out.cells))
      have HSZ := H2.out.sz
      refine start_ (n := 11) (S := fun w' => w'.cell? ⟨w.heap.size, 0, none⟩ = some (.int .i64 st) ∧ w'.cell? ⟨w.heap.size, 1, none⟩ = some (.slice An n.length cn) ∧ w'.cell? ⟨w.heap.size, 2, none⟩ = some (.slice Ah1 0 ch1)) (ds := [9]) #[false, false, false, false, false, false, false, false, false, false, false] (by kernel_rfl) rfl rfl ⟨H2.out.cells.1, H2.out.cells.2.1, H2.out.cells.2.2.1⟩ (fun hHeld => ?_)
      refine pure_ (i := 2) (N := some 44) (v := ?_) (a' := ?_) #[false, false, true, false, false, false, false, false, false, false, false] rfl rfl (by kernel_rfl) (fun _ _ _ h => h) (Or.inl ⟨by rfl, ?_⟩) ?_ ?_
      rotate_left
      · intro w'
        go_simp
        with_reducible rfl
      rotate_left
      · simp only [Act.put, List.setIfInBounds_toArray, List.set_cons_zero, List.set_cons_succ, i64_w, i32_w]
        rfl
      refine pure_ (i := 4) (N := some 46) (v := ?_) (a' := ?_) #[false, false, true, false, true, false, false, false, false, false, false] rfl rfl (by kernel_rfl) (fun _ _ _ h => h) (Or.inl ⟨by rfl, ?_⟩) ?_ ?_
      rotate_left
      · intro w'
        go_simp
        with_reducible rfl
      rotate_left
      · simp only [Act.put, List.setIfInBounds_toArray, List.set_cons_zero, List.set_cons_succ, i64_w, i32_w]
        rfl
      refine pure_ (i := 5) (N := some 47) (v := ?_) (a' := ?_) #[false, false, true, false, true, true, false, false, false, false, false] rfl rfl (by kernel_rfl) (fun _ _ _ h => h) (Or.inl ⟨by rfl, ?_⟩) ?_ ?_
      rotate_left
      · intro w'
        go_simp
        with_reducible rfl
      rotate_left
      · simp only [Act.put, List.setIfInBounds_toArray, List.set_cons_zero, List.set_cons_succ, i64_w, i32_w]
        rfl
      refine pure_ (i := 6) (N := some 48) (v := ?_) (a' := ?_) #[false, false, true, false, true, true, true, false, false, false, false] rfl rfl (by kernel_rfl) (fun _ _ _ h => h) (Or.inl ⟨by rfl, ?_⟩) ?_ ?_
      rotate_left
      · intro w'
        go_simp
        with_reducible rfl
      rotate_left
      · simp only [Act.put, List.setIfInBounds_toArray, List.set_cons_zero, List.set_cons_succ, i64_w, i32_w]
        rfl
      refine take_ (i := 0) (N := some 42) (v := ?_) (a' := ?_) #[true, false, true, false, true, true, true, false, false, false, false] rfl rfl (by kernel_rfl) (fun _ _ _ h => h) (Or.inl ⟨by rfl, ?_⟩) hHeld ?_ ?_
      rotate_left
      · rintro w' ⟨s0, s1, s2⟩
        go_simp
        with_reducible rfl
      rotate_left
      · simp only [Act.put, List.setIfInBounds_toArray, List.set_cons_zero, List.set_cons_succ, i64_w, i32_w]
        rfl
      refine join_ (σ := Value × Value × Nat) 3 #[true, true, true, true, true, true, true, true, false, false, false] (fun s => [(43, s.1), (45, s.2.1), (49, .slice (some ⟨s.2.2, 0, none⟩) 1 1)]) (fun s w' => Kd.N kE8 48 w' w2.heap.size (okS P w) s.2.1 L1 ∧ Kd.F kE8 w' (fun k => k = s.2.2) (some ⟨s.2.2, 0, none⟩) 1 [(⟨2, 127, []⟩ : S48)] ∧ some s.2.2 ≠ s.2.1.ownBlock ∧ s.2.2 < w'.heap.size ∧ w2.heap.size ≤ s.2.2 ∧ Below w2.heap.size w2 w') ?_ ?_
      rotate_left
      · intro hCont
        refine two_ (i := 1) (j := 7) (Ni := some 43) (Nj := some 49) #[true, true, true, false, true, true, true, false, false, false, false] #[true, false, true, false, true, true, true, true, false, false, false] rfl rfl rfl rfl (by kernel_rfl) (by decide) (by decide) (fun K hK => ?_) (fun K hK => ?_)
        · skip
          refine value_ (w1 := ?_) (v := ?_) (by rfl) rfl ?_ ?_
          rotate_left 2
          · go_simp
            constructor
            · rfl
            · rfl
          skip
          refine hK.out _ _ ⟨(H2.out.below (show Below w2.heap.size w2 (w2.drew.alloc (.cells #[] 48)) from (below_alloc (below_drew (Below.refl _ _)) (.cells #[] 48)))).cells.1, (H2.out.below (show Below w2.heap.size w2 (w2.drew.alloc (.cells #[] 48)) from (below_alloc (below_drew (Below.refl _ _)) (.cells #[] 48)))).cells.2.1, (H2.out.below (show Below w2.heap.size w2 (w2.drew.alloc (.cells #[] 48)) from (below_alloc (below_drew (Below.refl _ _)) (.cells #[] 48)))).cells.2.2.1⟩ (fun hHeld => ?_)
          clear hK K
          refine norm_ (a' := ?_) ?_ ?_
          rotate_left
          · show Act.put _ (some 43) _ = _
            simp only [Act.put, List.setIfInBounds_toArray, List.set_cons_zero, List.set_cons_succ, i64_w, i32_w]
            rfl
          refine two_ (i := 3) (j := 7) (Ni := some 45) (Nj := some 49) #[true, true, true, true, true, true, true, false, false, false, false] #[true, true, true, false, true, true, true, true, false, false, false] rfl rfl rfl rfl (by kernel_rfl) (by decide) (by decide) (fun K hK => ?_) (fun K hK => ?_)
          · skip
            refine Kd.N_append_rows_step kE8 (w0 := w2) w2.heap.size (by rfl) (.tmp 43) (.tmp 44) 32 48 _ 40 (by rfl) Try.underlying32 infoE8 rfl (by decide) (by omega) (.slice (some ⟨w2.heap.size, 0, none⟩) 0 0) [] L1 Ao1 _ co1 (okS P w) (fun k => okS P w k ∧ k < w2.heap.size) (by rfl) (by rfl) (emptyE' w2.drew w2.heap.size w2.heap.size _ (Nat.le_refl _) rfl (okS_new (by have := HSZ; omega))) (Kd.F_below (Kd.F_bound H2.out.ro.F.1) (show Below w2.heap.size w2 (w2.drew.alloc (.cells #[] 48)) from (below_alloc (below_drew (Below.refl _ _)) (.cells #[] 48)))) (fun k hk => ⟨hk.1, fun h => by have := hk.2; simp [Value.ownBlock] at h; omega⟩) (fun k hk => okS_new (by have h2 := Nat.le_trans ((show Below w2.heap.size w2 (w2.drew.alloc (.cells #[] 48)) from (below_alloc (below_drew (Below.refl _ _)) (.cells #[] 48)))).size hk; have := HSZ; omega)) (show Below w2.heap.size w2 (w2.drew.alloc (.cells #[] 48)) from (below_alloc (below_drew (Below.refl _ _)) (.cells #[] 48))) (show Below w2.heap.size w2 (w2.drew.alloc (.cells #[] 48)) from (below_alloc (below_drew (Below.refl _ _)) (.cells #[] 48))).size (by simp; have := HLL1.out; omega) ?_
            intro v4 w4 ho hb hg hat
            rw [List.nil_append] at ho
            have HN4 := Aside0.mk ho
            have HB4 := Aside0.mk hb
            clear ho hb hg hat
            refine hK.out _ _ ⟨(H2.out.below HB4.out).cells.1, (H2.out.below HB4.out).cells.2.1, (H2.out.below HB4.out).cells.2.2.1⟩ (fun hHeld => ?_)
            clear hK K
            refine norm_ (a' := ?_) ?_ ?_
            rotate_left
            · show Act.put _ (some 45) _ = _
              simp only [Act.put, List.setIfInBounds_toArray, List.set_cons_zero, List.set_cons_succ, i64_w, i32_w]
              rfl
            refine one_ (i := 7) (N := some 49) #[true, true, true, true, true, true, true, true, false, false, false] rfl rfl (by kernel_rfl) (by decide) (fun K hK => ?_)
            refine value_ (w1 := ?_) (v := ?_) (by rfl) rfl ?_ ?_
            rotate_left 2
            · go_simp
              constructor
              · rfl
              · rfl
            skip
            refine hK.out _ _ ⟨(H2.out.below (below_alloc HB4.out (.cells #[.int .i64 2, .int .i64 127, .slice none 0 0] 48))).cells.1, (H2.out.below (below_alloc HB4.out (.cells #[.int .i64 2, .int .i64 127, .slice none 0 0] 48))).cells.2.1, (H2.out.below (below_alloc HB4.out (.cells #[.int .i64 2, .int .i64 127, .slice none 0 0] 48))).cells.2.2.1⟩ (fun hHeld => ?_)
            clear hK K
            refine norm_ (a' := ?_) ?_ ?_
            rotate_left
            · show Act.put _ (some 49) _ = _
              simp only [Act.put, List.setIfInBounds_toArray, List.set_cons_zero, List.set_cons_succ, i64_w, i32_w]
              rfl
            exact norm_ (by simp only [putAll, Act.put, List.setIfInBounds_toArray, List.set_cons_zero, List.set_cons_succ]) (hCont ((.slice (some ⟨w2.heap.size, 0, none⟩) 0 0), v4, w4.heap.size) _ ⟨Kd.N_alloc HN4.out _, evNil8 w4 2 127, fun h => Nat.lt_irrefl _ (Kd.N_lt HN4.out _ h.symm), by rw [alloc_size1]; exact Nat.lt_succ_self _, HB4.out.size, below_alloc HB4.out _⟩)
          · skip
            refine value_ (w1 := ?_) (v := ?_) (by rfl) rfl ?_ ?_
            rotate_left 2
            · go_simp
              constructor
              · rfl
              · rfl
            skip
            refine hK.out _ _ ⟨(H2.out.below (show Below w2.heap.size w2 ((w2.drew.alloc (.cells #[] 48)).alloc (.cells #[.int .i64 2, .int .i64 127, .slice none 0 0] 48)) from (below_alloc (below_alloc (below_drew (Below.refl _ _)) (.cells #[] 48)) (.cells #[.int .i64 2, .int .i64 127, .slice none 0 0] 48)))).cells.1, (H2.out.below (show Below w2.heap.size w2 ((w2.drew.alloc (.cells #[] 48)).alloc (.cells #[.int .i64 2, .int .i64 127, .slice none 0 0] 48)) from (below_alloc (below_alloc (below_drew (Below.refl _ _)) (.cells #[] 48)) (.cells #[.int .i64 2, .int .i64 127, .slice none 0 0] 48)))).cells.2.1, (H2.out.below (show Below w2.heap.size w2 ((w2.drew.alloc (.cells #[] 48)).alloc (.cells #[.int .i64 2, .int .i64 127, .slice none 0 0] 48)) from (below_alloc (below_alloc (below_drew (Below.refl _ _)) (.cells #[] 48)) (.cells #[.int .i64 2, .int .i64 127, .slice none 0 0] 48)))).cells.2.2.1⟩ (fun hHeld => ?_)
            clear hK K
            refine norm_ (a' := ?_) ?_ ?_
            rotate_left
            · show Act.put _ (some 49) _ = _
              simp only [Act.put, List.setIfInBounds_toArray, List.set_cons_zero, List.set_cons_succ, i64_w, i32_w]
              rfl
            refine one_ (i := 3) (N := some 45) #[true, true, true, true, true, true, true, true, false, false, false] rfl rfl (by kernel_rfl) (by decide) (fun K hK => ?_)
            refine Kd.N_append_rows_step kE8 (w0 := w2) w2.heap.size (by rfl) (.tmp 43) (.tmp 44) 32 48 _ 40 (by rfl) Try.underlying32 infoE8 rfl (by decide) (by omega) (.slice (some ⟨w2.heap.size, 0, none⟩) 0 0) [] L1 Ao1 _ co1 (okS P w) (fun k => okS P w k ∧ k < w2.heap.size) (by rfl) (by rfl) (Kd.N_alloc (emptyE' w2.drew w2.heap.size w2.heap.size _ (Nat.le_refl _) rfl (okS_new (by have := HSZ; omega))) (.cells #[.int .i64 2, .int .i64 127, .slice none 0 0] 48)) (Kd.F_below (Kd.F_bound H2.out.ro.F.1) (show Below w2.heap.size w2 ((w2.drew.alloc (.cells #[] 48)).alloc (.cells #[.int .i64 2, .int .i64 127, .slice none 0 0] 48)) from (below_alloc (below_alloc (below_drew (Below.refl _ _)) (.cells #[] 48)) (.cells #[.int .i64 2, .int .i64 127, .slice none 0 0] 48)))) (fun k hk => ⟨hk.1, fun h => by have := hk.2; simp [Value.ownBlock] at h; omega⟩) (fun k hk => okS_new (by have h2 := Nat.le_trans ((show Below w2.heap.size w2 ((w2.drew.alloc (.cells #[] 48)).alloc (.cells #[.int .i64 2, .int .i64 127, .slice none 0 0] 48)) from (below_alloc (below_alloc (below_drew (Below.refl _ _)) (.cells #[] 48)) (.cells #[.int .i64 2, .int .i64 127, .slice none 0 0] 48)))).size hk; have := HSZ; omega)) (show Below w2.heap.size w2 ((w2.drew.alloc (.cells #[] 48)).alloc (.cells #[.int .i64 2, .int .i64 127, .slice none 0 0] 48)) from (below_alloc (below_alloc (below_drew (Below.refl _ _)) (.cells #[] 48)) (.cells #[.int .i64 2, .int .i64 127, .slice none 0 0] 48))) (show Below w2.heap.size w2 ((w2.drew.alloc (.cells #[] 48)).alloc (.cells #[.int .i64 2, .int .i64 127, .slice none 0 0] 48)) from (below_alloc (below_alloc (below_drew (Below.refl _ _)) (.cells #[] 48)) (.cells #[.int .i64 2, .int .i64 127, .slice none 0 0] 48))).size (by simp; have := HLL1.out; omega) ?_
            intro v4 w4 ho hb hg hat
            rw [List.nil_append] at ho
            have HN4 := Aside0.mk ho
            have HB4 := Aside0.mk hb
            have HF4 := Aside0.mk (fork_end (evNil8' (w2.drew.alloc (.cells #[] 48)) 2 127 (w2.heap.size + 1) (drew_size _ _).symm) (by rw [alloc_size1, drew_size]; omega) (by simp [Value.ownBlock]) hg hat)
            have HS4 := Aside0.mk hg.size
            clear ho hb hg hat
            refine hK.out _ _ ⟨(H2.out.below HB4.out).cells.1, (H2.out.below HB4.out).cells.2.1, (H2.out.below HB4.out).cells.2.2.1⟩ (fun hHeld => ?_)
            clear hK K
            refine norm_ (a' := ?_) ?_ ?_
            rotate_left
            · show Act.put _ (some 45) _ = _
              simp only [Act.put, List.setIfInBounds_toArray, List.set_cons_zero, List.set_cons_succ, i64_w, i32_w]
              rfl
            exact norm_ (by simp only [putAll, Act.put, List.setIfInBounds_toArray, List.set_cons_zero, List.set_cons_succ]) (hCont ((.slice (some ⟨w2.heap.size, 0, none⟩) 0 0), v4, w2.heap.size + 1) _ ⟨HN4.out, HF4.out.1, HF4.out.2, by have := HS4.out; rw [size2] at this; exact Nat.lt_of_lt_of_le (Nat.lt_succ_self _) this, Nat.le_succ _, HB4.out⟩)
        · skip
          refine value_ (w1 := ?_) (v := ?_) (by rfl) rfl ?_ ?_
          rotate_left 2
          · go_simp
            constructor
            · rfl
            · rfl
          skip
          refine hK.out _ _ ⟨(H2.out.below (show Below w2.heap.size w2 (w2.drew.alloc (.cells #[.int .i64 2, .int .i64 127, .slice none 0 0] 48)) from (below_alloc (below_drew (Below.refl _ _)) (.cells #[.int .i64 2, .int .i64 127, .slice none 0 0] 48)))).cells.1, (H2.out.below (show Below w2.heap.size w2 (w2.drew.alloc (.cells #[.int .i64 2, .int .i64 127, .slice none 0 0] 48)) from (below_alloc (below_drew (Below.refl _ _)) (.cells #[.int .i64 2, .int .i64 127, .slice none 0 0] 48)))).cells.2.1, (H2.out.below (show Below w2.heap.size w2 (w2.drew.alloc (.cells #[.int .i64 2, .int .i64 127, .slice none 0 0] 48)) from (below_alloc (below_drew (Below.refl _ _)) (.cells #[.int .i64 2, .int .i64 127, .slice none 0 0] 48)))).cells.2.2.1⟩ (fun hHeld => ?_)
          clear hK K
          refine norm_ (a' := ?_) ?_ ?_
          rotate_left
          · show Act.put _ (some 49) _ = _
            simp only [Act.put, List.setIfInBounds_toArray, List.set_cons_zero, List.set_cons_succ, i64_w, i32_w]
            rfl
          refine one_ (i := 1) (N := some 43) #[true, true, true, false, true, true, true, true, false, false, false] rfl rfl (by kernel_rfl) (by decide) (fun K hK => ?_)
          refine value_ (w1 := ?_) (v := ?_) (by rfl) rfl ?_ ?_
          rotate_left 2
          · go_simp
            constructor
            · rfl
            · rfl
          skip
          refine hK.out _ _ ⟨(H2.out.below (show Below w2.heap.size w2 ((w2.drew.alloc (.cells #[.int .i64 2, .int .i64 127, .slice none 0 0] 48)).alloc (.cells #[] 48)) from (below_alloc (below_alloc (below_drew (Below.refl _ _)) (.cells #[.int .i64 2, .int .i64 127, .slice none 0 0] 48)) (.cells #[] 48)))).cells.1, (H2.out.below (show Below w2.heap.size w2 ((w2.drew.alloc (.cells #[.int .i64 2, .int .i64 127, .slice none 0 0] 48)).alloc (.cells #[] 48)) from (below_alloc (below_alloc (below_drew (Below.refl _ _)) (.cells #[.int .i64 2, .int .i64 127, .slice none 0 0] 48)) (.cells #[] 48)))).cells.2.1, (H2.out.below (show Below w2.heap.size w2 ((w2.drew.alloc (.cells #[.int .i64 2, .int .i64 127, .slice none 0 0] 48)).alloc (.cells #[] 48)) from (below_alloc (below_alloc (below_drew (Below.refl _ _)) (.cells #[.int .i64 2, .int .i64 127, .slice none 0 0] 48)) (.cells #[] 48)))).cells.2.2.1⟩ (fun hHeld => ?_)
          clear hK K
          refine norm_ (a' := ?_) ?_ ?_
          rotate_left
          · show Act.put _ (some 43) _ = _
            simp only [Act.put, List.setIfInBounds_toArray, List.set_cons_zero, List.set_cons_succ, i64_w, i32_w]
            rfl
          refine one_ (i := 3) (N := some 45) #[true, true, true, true, true, true, true, true, false, false, false] rfl rfl (by kernel_rfl) (by decide) (fun K hK => ?_)
          refine Kd.N_append_rows_step kE8 (w0 := w2) w2.heap.size (by rfl) (.tmp 43) (.tmp 44) 32 48 _ 40 (by rfl) Try.underlying32 infoE8 rfl (by decide) (by omega) (.slice (some ⟨w2.heap.size + 1, 0, none⟩) 0 0) [] L1 Ao1 _ co1 (okS P w) (fun k => okS P w k ∧ k < w2.heap.size) (by rfl) (by rfl) (emptyE' (w2.drew.alloc (.cells #[.int .i64 2, .int .i64 127, .slice none 0 0] 48)) w2.heap.size (w2.heap.size + 1) _ (by rw [drew_size]; omega) (drew_size _ _).symm (okS_new (by have := HSZ; omega))) (Kd.F_below (Kd.F_bound H2.out.ro.F.1) (show Below w2.heap.size w2 ((w2.drew.alloc (.cells #[.int .i64 2, .int .i64 127, .slice none 0 0] 48)).alloc (.cells #[] 48)) from (below_alloc (below_alloc (below_drew (Below.refl _ _)) (.cells #[.int .i64 2, .int .i64 127, .slice none 0 0] 48)) (.cells #[] 48)))) (fun k hk => ⟨hk.1, fun h => by have := hk.2; simp [Value.ownBlock] at h; omega⟩) (fun k hk => okS_new (by have h2 := Nat.le_trans ((show Below w2.heap.size w2 ((w2.drew.alloc (.cells #[.int .i64 2, .int .i64 127, .slice none 0 0] 48)).alloc (.cells #[] 48)) from (below_alloc (below_alloc (below_drew (Below.refl _ _)) (.cells #[.int .i64 2, .int .i64 127, .slice none 0 0] 48)) (.cells #[] 48)))).size hk; have := HSZ; omega)) (show Below w2.heap.size w2 ((w2.drew.alloc (.cells #[.int .i64 2, .int .i64 127, .slice none 0 0] 48)).alloc (.cells #[] 48)) from (below_alloc (below_alloc (below_drew (Below.refl _ _)) (.cells #[.int .i64 2, .int .i64 127, .slice none 0 0] 48)) (.cells #[] 48))) (show Below w2.heap.size w2 ((w2.drew.alloc (.cells #[.int .i64 2, .int .i64 127, .slice none 0 0] 48)).alloc (.cells #[] 48)) from (below_alloc (below_alloc (below_drew (Below.refl _ _)) (.cells #[.int .i64 2, .int .i64 127, .slice none 0 0] 48)) (.cells #[] 48))).size (by simp; have := HLL1.out; omega) ?_
          intro v4 w4 ho hb hg hat
          rw [List.nil_append] at ho
          have HN4 := Aside0.mk ho
          have HB4 := Aside0.mk hb
          have HF4 := Aside0.mk (fork_end (Kd.F_alloc (evNil8' w2.drew 2 127 w2.heap.size rfl) (.cells #[] 48)) (by rw [alloc_size1, drew_size]; omega) (by simp [Value.ownBlock]) hg hat)
          have HS4 := Aside0.mk hg.size
          clear ho hb hg hat
          refine hK.out _ _ ⟨(H2.out.below HB4.out).cells.1, (H2.out.below HB4.out).cells.2.1, (H2.out.below HB4.out).cells.2.2.1⟩ (fun hHeld => ?_)
          clear hK K
          refine norm_ (a' := ?_) ?_ ?_
          rotate_left
          · show Act.put _ (some 45) _ = _
            simp only [Act.put, List.setIfInBounds_toArray, List.set_cons_zero, List.set_cons_succ, i64_w, i32_w]
            rfl
          exact norm_ (by simp only [putAll, Act.put, List.setIfInBounds_toArray, List.set_cons_zero, List.set_cons_succ]) (hCont ((.slice (some ⟨w2.heap.size + 1, 0, none⟩) 0 0), v4, w2.heap.size) _ ⟨HN4.out, HF4.out.1, HF4.out.2, by have := HS4.out; rw [size2] at this; exact Nat.lt_of_lt_of_le (Nat.lt_succ_of_lt (Nat.lt_succ_self _)) this, Nat.le_refl _, HB4.out⟩)
      rintro ⟨vE, v5, g5⟩ w5 ⟨hN5, hF5, hne5, hlt5, hge5, hb5⟩
      dsimp only at hN5 hF5 hne5 hlt5 hge5
      have hHeld := (And.intro (H2.out.below hb5).cells.1 (And.intro (H2.out.below hb5).cells.2.1 (H2.out.below hb5).cells.2.2.1))
      have HN5 := Aside0.mk hN5
      have HF5 := Aside0.mk (And.intro hF5 (And.intro hne5 (And.intro hlt5 (And.intro hge5 hb5))))
      clear hN5 hF5 hne5 hlt5 hge5 hb5
      refine norm_ (a' := ?_) ?_ ?_
      rotate_left
      · simp only [putAll, Act.put, List.setIfInBounds_toArray, List.set_cons_zero, List.set_cons_succ]
        rfl
      refine one_ (i := 8) (N := some 50) #[true, true, true, true, true, true, true, true, true, false, false] rfl rfl (by kernel_rfl) (by decide) (fun K hK => ?_)
      refine Kd.N_append_rows_step kE8 (w0 := w2) w2.heap.size (by rfl) (.tmp 45) (.tmp 49) 32 48 _ 40 (by rfl) Try.underlying32 infoE8 rfl (by decide) (by omega) v5 L1 [(⟨2, 127, []⟩ : S48)] (some ⟨g5, 0, none⟩) 1 1 (okS P w) _ (by rfl) (by rfl) HN5.out HF5.out.1 (fun k hk => ⟨okS_new (by have := HSZ; have := HF5.out.2.2.2.1; omega), by rw [hk]; exact HF5.out.2.1⟩) (fun k hk => okS_new (by have h2 := Nat.le_trans HF5.out.2.2.2.2.size hk; have := HSZ; omega)) HF5.out.2.2.2.2 HF5.out.2.2.2.2.size (by have := HLL1.out; omega) ?_
      intro v6 w6 ho hb hg hat
      rw [HL2.out] at ho
      have HB6 := Aside0.mk hb
      have H6 := Aside0.mk ((H2.out.below hb).out (RD.ofN ho))
      have HO6 := Aside0.mk ho
      clear ho hb hg hat
      refine hK.out _ _ ⟨H6.out.cells.1, H6.out.cells.2.1, H6.out.cells.2.2.1⟩ (fun hHeld => ?_)
      clear hK K
      refine norm_ (a' := ?_) ?_ ?_
      rotate_left
      · show Act.put _ (some 50) _ = _
        simp only [Act.put, List.setIfInBounds_toArray, List.set_cons_zero, List.set_cons_succ, i64_w, i32_w]
        rfl
      refine last_ (i := 9) (N := none) #[true, true, true, true, true, true, true, true, true, true, false] rfl rfl (by kernel_rfl) (by decide) (fun K hK => ?_)
      refine skip_ (w1 := pOut w6 (w.heap.size + 1) st (.slice An n.length cn) (.slice Ah1 0 ch1)) (by rfl) rfl (exec_put (.tmp 6) (.tmp 42) rfl st _ _ rfl rfl H6.out.b6 rfl rfl rfl) ?_
      have HA := Aside0.mk (H6.out.ans st H6.out.rn H6.out.rh)
      refine hK.out _ _ ?_
      clear hK K
      refine pure_ (i := 10) (N := some 7) (v := ?_) (a' := ?_) #[true, true, true, true, true, true, true, true, true, true, true] rfl rfl (by kernel_rfl) (fun _ _ _ h => h) (Or.inl ⟨by rfl, ?_⟩) ?_ ?_
      rotate_left
      · intro w'
        go_simp
        with_reducible rfl
      rotate_left
      · simp only [Act.put, List.setIfInBounds_toArray, List.set_cons_zero, List.set_cons_succ, i64_w, i32_w]
        rfl
      refine done_ (by kernel_rfl) ?_
      all_goals go_wp2
      all_goals refine bodyPost_ret (results_ct rfl _ _ (w.heap.size + 1) 31 _ (0, 0) _ rfl HA.out.1 Try.underlying31 rfl rfl) (by rfl) ?_
      all_goals exact HA.out.2
end Go.Proofs.Ytlllbaieidbcdaa.Str
