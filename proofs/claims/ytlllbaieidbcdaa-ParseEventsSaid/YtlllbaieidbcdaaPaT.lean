/- The document's parser: a step, the other bytes. -/
import Derived.Test.YtlllbaieidbcdaaPaO
namespace Go.Proofs.Ytlllbaieidbcdaa.Str
open Go.RowKit Go.Proofs.Ytlllbaieidbcdaa Go.Proofs.Ytlllbaieidbcdaa.PParseEvents Go.Proofs.YtlllbaieidbcdaaW.PrintWords Go.Proofs.YtlllbaieidbcdaaW.PrintLast Go.Proofs.YtlllbaieidbcdaaW.PrintMore
set_option linter.unusedVariables false
set_option linter.unusedSimpArgs false
set_option maxRecDepth 100000 in
set_option maxHeartbeats 8000000 in
theorem Step_C (w : World) (st : Int) (n h : List Int) (m : Nat) (An : Option Addr) (cn : Nat) (Ah : Option Addr) (ch : Nat) (Ao : Option Addr) (co : Nat) (L : List S48) (x : Int) (P : Nat → Prop) (hp : (⟨st, n, h⟩ : PP).ok m) (hm : m ≤ 10000)
    (hn : RD (Kd.int .i64) w P (.slice An n.length cn) n) (hh : RD (Kd.int .u8) w P (.slice Ah h.length ch) h) (ho : RD kE8 w P (.slice Ao L.length co) L) (hl : L.length ≤ 100000) (hx8 : 0 ≤ x ∧ x ≤ 255) (cA : ¬ (x < 32 ∨ x = 127)) (cB : ¬ (128 ≤ x ∨ st = 0))
    {st' : Int} {n' h' : List Int} {E : List Evt} (hs : stepV ⟨st, n, h⟩ x = (⟨st', n', h'⟩, E)) {L' : List S48} (hL' : L ++ E.map ev48 = L') :
    Calls Try.prog 20 #[.agg #[.int .i64 st, .slice An n.length cn, .slice Ah h.length ch], .slice Ao L.length co, .int .u8 x] w fun e w' => RPost P w w' e st' n' h' L' := by
  have hQ0 : RQ P w ((w.alloc (.cells #[.int .i64 st, .slice An n.length cn, .slice Ah h.length ch] 31)).alloc (.cells #[.int .i64 0, .slice none 0 0, .slice none 0 0] 31)) st n h (.slice An n.length cn) (.slice Ah h.length ch) (.slice Ao L.length co) L := by
    have hb : Below w.heap.size w ((w.alloc (.cells #[.int .i64 st, .slice An n.length cn, .slice Ah h.length ch] 31)).alloc (.cells #[.int .i64 0, .slice none 0 0, .slice none 0 0] 31)) := below_alloc (below_alloc (Below.refl _ _) _) _
    refine ⟨blk_alloc (blk_new w _) _, ?_, hb, (hn.bound.below hb).mono (fun k hk => ⟨by omega, by omega, fun _ => hk.1⟩), (hh.bound.below hb).mono (fun k hk => ⟨by omega, by omega, fun _ => hk.1⟩), (ho.bound.below hb).mono (fun k hk => ⟨by omega, by omega, fun _ => hk.1⟩)⟩
    have := blk_new (w.alloc (.cells #[.int .i64 st, .slice An n.length cn, .slice Ah h.length ch] 31)) (.cells #[.int .i64 0, .slice none 0 0, .slice none 0 0] 31)
    rwa [alloc_size1] at this
  have HQ := Aside0.mk hQ0
  have HP := Aside0.mk hp
  have HLL := Aside0.mk (show L.length ≤ 1000000 by omega)
  have HM := Aside0.mk hm
  have HX8 := Aside0.mk hx8
  have hw64 : IntKind.i64.wrap x = x := by rw [i64_w, w64 (by omega) (by omega)]
  have hw64' : wrap64 x = x := w64 (by omega) (by omega)
  obtain ⟨L1, hL1⟩ : ∃ L1, L ++ (flushV h).map ev48 = L1 := ⟨_, rfl⟩
  have HL1 := Aside0.mk hL1
  have HLL1 := Aside0.mk (show L1.length ≤ 200000 by rw [← hL1, List.length_append, List.length_map]; have := flushV_len h; omega)
  clear hQ0 hn hh ho hm hp
  -- BODY
  have T32 : decide (x < 32) = false := decide_eq_false (fun h => cA (.inl h))
  have T127 : (x == 127) = false := by rw [beq_eq_false_iff_ne]; exact fun h => cA (.inr h)
  have T24 : (x == 24) = false := by rw [beq_eq_false_iff_ne]; omega
  have T26 : (x == 26) = false := by rw [beq_eq_false_iff_ne]; omega
  have T27 : (x == 27) = false := by rw [beq_eq_false_iff_ne]; omega
  have T128 : decide (x ≥ 128) = false := decide_eq_false (fun h => cB (.inl h))
  have T0 : (st == 0) = false := by rw [beq_eq_false_iff_ne]; exact fun h => cB (.inr h)
  by_cases s1 : st = 1
  · subst s1
    by_cases c91 : x = 91
    · subst c91
      have hv : stepV ⟨1, n, h⟩ 91 = (⟨3, n, h⟩, []) := by unfold stepV; rw [if_neg cA, if_neg cB, if_pos (.inl rfl)]; simp
      rw [hv] at hs
      injection hs with hs1 hs2
      injection hs1 with h1 h2 h3
      subst h1 h2 h3 hs2
      rw [List.map_nil, List.append_nil] at hL'
      subst hL'
      clear hL1 hv
      go_enter Try.func20, Try.ntmps20
      go_wp2_with (first | ((with_reducible refine gate_ (.store 3 (.tmp 106) (.const (.int .i64 0))) rfl ?_); go_must (refine step_cell 3 (.tmp 106) (.const (.int .i64 0)) rfl rfl rfl (.int .i64 0) rfl rfl HQ.out.b3 (show 0 < 3 from by decide) rfl (by kernel_rfl) rfl ?_); intro w1 hw; have H1 := Aside0.mk (HQ.out.setst 0); rw [← hw] at H1; clear hw; obtain ⟨hc10, hc11, hc12, hf10, hf11, hf12⟩ := H1.out.cells) | ((with_reducible refine gate_ (.store 3 (.tmp 109) (.const (.int .i64 3))) rfl ?_); go_must (refine step_cell 3 (.tmp 109) (.const (.int .i64 3)) rfl rfl rfl (.int .i64 3) rfl rfl H1.out.b3 (show 0 < 3 from by decide) rfl (by kernel_rfl) rfl ?_); intro w2 hw; have H2 := Aside0.mk (H1.out.setst 3); rw [← hw] at H2; clear hw; obtain ⟨hc20, hc21, hc22, hf20, hf21, hf22⟩ := H2.out.cells) | ((with_reducible refine gate_ (.store 31 (.tmp 6) (.tmp 173)) rfl ?_); go_must (refine step_put (.tmp 6) (.tmp 173) rfl rfl rfl 3 _ _ rfl rfl H2.out.b6 rfl rfl rfl ?_); intro w3 hw; have HA := Aside0.mk (H2.out.ans 3 H2.out.rn H2.out.rh); rw [← hw] at HA; clear hw))
      all_goals refine bodyPost_ret (results_ct rfl _ _ (w.heap.size + 1) 31 _ (0, 0) _ rfl HA.out.1 Try.underlying31 rfl rfl) (by rfl) ?_
      all_goals exact HA.out.2
    have T91 : (x == 91) = false := by rw [beq_eq_false_iff_ne]; exact c91
    by_cases c48 : x < 48
    · have T47 : decide (x ≤ 47) = true := decide_eq_true (by omega)
      have hv : stepV ⟨1, n, h⟩ x = (⟨2, n, h⟩, []) := by unfold stepV; rw [if_neg cA, if_neg cB, if_pos (.inl rfl)]; simp [c91, c48]
      rw [hv] at hs
      injection hs with hs1 hs2
      injection hs1 with h1 h2 h3
      subst h1 h2 h3 hs2
      rw [List.map_nil, List.append_nil] at hL'
      subst hL'
      clear hL1 hv
      go_enter Try.func20, Try.ntmps20
      go_wp2_with (first | ((with_reducible refine gate_ (.store 3 (.tmp 106) (.const (.int .i64 0))) rfl ?_); go_must (refine step_cell 3 (.tmp 106) (.const (.int .i64 0)) rfl rfl rfl (.int .i64 0) rfl rfl HQ.out.b3 (show 0 < 3 from by decide) rfl (by kernel_rfl) rfl ?_); intro w1 hw; have H1 := Aside0.mk (HQ.out.setst 0); rw [← hw] at H1; clear hw; obtain ⟨hc10, hc11, hc12, hf10, hf11, hf12⟩ := H1.out.cells) | ((with_reducible refine gate_ (.store 3 (.tmp 112) (.const (.int .i64 2))) rfl ?_); go_must (refine step_cell 3 (.tmp 112) (.const (.int .i64 2)) rfl rfl rfl (.int .i64 2) rfl rfl H1.out.b3 (show 0 < 3 from by decide) rfl (by kernel_rfl) rfl ?_); intro w2 hw; have H2 := Aside0.mk (H1.out.setst 2); rw [← hw] at H2; clear hw; obtain ⟨hc20, hc21, hc22, hf20, hf21, hf22⟩ := H2.out.cells) | ((with_reducible refine gate_ (.store 31 (.tmp 6) (.tmp 173)) rfl ?_); go_must (refine step_put (.tmp 6) (.tmp 173) rfl rfl rfl 2 _ _ rfl rfl H2.out.b6 rfl rfl rfl ?_); intro w3 hw; have HA := Aside0.mk (H2.out.ans 2 H2.out.rn H2.out.rh); rw [← hw] at HA; clear hw))
      all_goals refine bodyPost_ret (results_ct rfl _ _ (w.heap.size + 1) 31 _ (0, 0) _ rfl HA.out.1 Try.underlying31 rfl rfl) (by rfl) ?_
      all_goals exact HA.out.2
    · have T47 : decide (x ≤ 47) = false := decide_eq_false (by omega)
      have hv : stepV ⟨1, n, h⟩ x = (⟨0, n, h⟩, []) := by unfold stepV; rw [if_neg cA, if_neg cB, if_pos (.inl rfl)]; simp [c91, c48]
      rw [hv] at hs
      injection hs with hs1 hs2
      injection hs1 with h1 h2 h3
      subst h1 h2 h3 hs2
      rw [List.map_nil, List.append_nil] at hL'
      subst hL'
      clear hL1 hv
      go_enter Try.func20, Try.ntmps20
      go_wp2_with (first | ((with_reducible refine gate_ (.store 3 (.tmp 106) (.const (.int .i64 0))) rfl ?_); go_must (refine step_cell 3 (.tmp 106) (.const (.int .i64 0)) rfl rfl rfl (.int .i64 0) rfl rfl HQ.out.b3 (show 0 < 3 from by decide) rfl (by kernel_rfl) rfl ?_); intro w1 hw; have H1 := Aside0.mk (HQ.out.setst 0); rw [← hw] at H1; clear hw; obtain ⟨hc10, hc11, hc12, hf10, hf11, hf12⟩ := H1.out.cells) | ((with_reducible refine gate_ (.store 31 (.tmp 6) (.tmp 173)) rfl ?_); go_must (refine step_put (.tmp 6) (.tmp 173) rfl rfl rfl 0 _ _ rfl rfl H1.out.b6 rfl rfl rfl ?_); intro w2 hw; have HA := Aside0.mk (H1.out.ans 0 H1.out.rn H1.out.rh); rw [← hw] at HA; clear hw))
      all_goals refine bodyPost_ret (results_ct rfl _ _ (w.heap.size + 1) 31 _ (0, 0) _ rfl HA.out.1 Try.underlying31 rfl rfl) (by rfl) ?_
      all_goals exact HA.out.2
  by_cases s2 : st = 2
  · subst s2
    by_cases c48 : x < 48
    · have T47 : decide (x > 47) = false := decide_eq_false (by omega)
      have hv : stepV ⟨2, n, h⟩ x = (⟨2, n, h⟩, []) := by unfold stepV; rw [if_neg cA, if_neg cB, if_pos (.inr rfl)]; simp [c48]
      rw [hv] at hs
      injection hs with hs1 hs2
      injection hs1 with h1 h2 h3
      subst h1 h2 h3 hs2
      rw [List.map_nil, List.append_nil] at hL'
      subst hL'
      clear hL1 hv
      go_enter Try.func20, Try.ntmps20
      go_wp2_with (first | ((with_reducible refine gate_ (.store 31 (.tmp 6) (.tmp 173)) rfl ?_); go_must (refine step_put (.tmp 6) (.tmp 173) rfl rfl rfl 2 _ _ rfl rfl HQ.out.b6 rfl rfl rfl ?_); intro w1 hw; have HA := Aside0.mk (HQ.out.ans 2 HQ.out.rn HQ.out.rh); rw [← hw] at HA; clear hw))
      all_goals refine bodyPost_ret (results_ct rfl _ _ (w.heap.size + 1) 31 _ (0, 0) _ rfl HA.out.1 Try.underlying31 rfl rfl) (by rfl) ?_
      all_goals exact HA.out.2
    · have T47 : decide (x > 47) = true := decide_eq_true (by omega)
      have hv : stepV ⟨2, n, h⟩ x = (⟨0, n, h⟩, []) := by unfold stepV; rw [if_neg cA, if_neg cB, if_pos (.inr rfl)]; simp [c48]
      rw [hv] at hs
      injection hs with hs1 hs2
      injection hs1 with h1 h2 h3
      subst h1 h2 h3 hs2
      rw [List.map_nil, List.append_nil] at hL'
      subst hL'
      clear hL1 hv
      go_enter Try.func20, Try.ntmps20
      go_wp2_with (first | ((with_reducible refine gate_ (.store 3 (.tmp 117) (.const (.int .i64 0))) rfl ?_); go_must (refine step_cell 3 (.tmp 117) (.const (.int .i64 0)) rfl rfl rfl (.int .i64 0) rfl rfl HQ.out.b3 (show 0 < 3 from by decide) rfl (by kernel_rfl) rfl ?_); intro w1 hw; have H1 := Aside0.mk (HQ.out.setst 0); rw [← hw] at H1; clear hw; obtain ⟨hc10, hc11, hc12, hf10, hf11, hf12⟩ := H1.out.cells) | ((with_reducible refine gate_ (.store 31 (.tmp 6) (.tmp 173)) rfl ?_); go_must (refine step_put (.tmp 6) (.tmp 173) rfl rfl rfl 0 _ _ rfl rfl H1.out.b6 rfl rfl rfl ?_); intro w2 hw; have HA := Aside0.mk (H1.out.ans 0 H1.out.rn H1.out.rh); rw [← hw] at HA; clear hw))
      all_goals refine bodyPost_ret (results_ct rfl _ _ (w.heap.size + 1) 31 _ (0, 0) _ rfl HA.out.1 Try.underlying31 rfl rfl) (by rfl) ?_
      all_goals exact HA.out.2
  by_cases s3 : st = 3
  · subst s3
    by_cases c57 : 48 ≤ x ∧ x < 58
    · have T48 : decide (x ≥ 48) = true := decide_eq_true c57.1
      have T57 : decide (x ≤ 57) = true := decide_eq_true (by omega)
      have hw48 : wrap64 (x - 48) = x - 48 := w64 (by omega) (by omega)
      have hw48' : IntKind.i64.wrap (x - 48) = x - 48 := by rw [i64_w]; exact hw48
      obtain ⟨T, hT⟩ : ∃ T, digV n (x - 48) = T := ⟨_, rfl⟩
      have hcv : cntV n x = (false, 3, T) := by unfold cntV; rw [if_neg (by omega), if_pos c57, hT]
      have HT := Aside0.mk (And.intro hT c57)
      have hv : stepV ⟨3, n, h⟩ x = (⟨3, T, h⟩, []) := by unfold stepV; rw [if_neg cA, if_neg cB, if_neg (by simp), if_pos rfl]; simp [hcv]
      rw [hv] at hs
      injection hs with hs1 hs2
      injection hs1 with h1 h2 h3
      subst h1 h2 h3 hs2
      rw [List.map_nil, List.append_nil] at hL'
      subst hL'
      clear hL1 hv hT hcv
      go_enter Try.func20, Try.ntmps20
      go_wp2_with (first | (go_at_call 33; go_must (refine (digits_any An cn n (x - 48) _ (Kd.F_now HQ.out.rn.F.1) HQ.out.rn.F.2 (by have := HP.out.nl; have := HM.out; dsimp only at *; omega) HP.out.nb (by have := HT.out.2; omega) (by have := HT.out.2; omega)).mono ?_); rintro e w90 ⟨v90, rfl, hR, hb⟩; rw [HT.out.1] at hR; obtain ⟨A1, c1, rfl⟩ := Kd.R_slice hR; have H90 := Aside0.mk (HQ.out.below hb); have D90 := Aside0.mk ((RD.ofR hR).mono (ok' := okS P w) (fun k hk => okS_new (by have := HQ.out.sz; omega))); obtain ⟨hc900, hc901, hc902, hf900, hf901, hf902⟩ := H90.out.cells; clear hR hb) | ((with_reducible refine gate_ (.store 26 (.tmp 132) (.tmp 131)) rfl ?_); go_must (refine step_cell 26 (.tmp 132) (.tmp 131) rfl rfl rfl (.slice A1 T.length c1) rfl rfl H90.out.b3 (show 1 < 3 from by decide) rfl (by kernel_rfl) rfl ?_); intro w1 hw; have H1 := Aside0.mk (H90.out.setn D90.out); rw [← hw] at H1; clear hw; obtain ⟨hc10, hc11, hc12, hf10, hf11, hf12⟩ := H1.out.cells) | ((with_reducible refine gate_ (.store 31 (.tmp 6) (.tmp 173)) rfl ?_); go_must (refine step_put (.tmp 6) (.tmp 173) rfl rfl rfl 3 _ _ rfl rfl H1.out.b6 rfl rfl rfl ?_); intro w2 hw; have HA := Aside0.mk (H1.out.ans 3 H1.out.rn H1.out.rh); rw [← hw] at HA; clear hw))
      all_goals refine bodyPost_ret (results_ct rfl _ _ (w.heap.size + 1) 31 _ (0, 0) _ rfl HA.out.1 Try.underlying31 rfl rfl) (by rfl) ?_
      all_goals exact HA.out.2
    by_cases c59 : x = 59
    · subst c59
      have T48 : decide ((59 : Int) ≥ 48) = true := rfl
      have T57 : decide ((59 : Int) ≤ 57) = false := rfl
      by_cases hne : n = []
      · have T00 : ((n.length : Int) == 0) = true := by rw [hne]; rfl
        have hcv : cntV n 59 = (false, 3, [-1, -1]) := by rw [hne]; rfl
        have hv : stepV ⟨3, n, h⟩ 59 = (⟨3, [-1, -1], h⟩, []) := by unfold stepV; rw [if_neg cA, if_neg cB, if_neg (by simp), if_pos rfl]; simp [hcv]
        rw [hv] at hs
        injection hs with hs1 hs2
        injection hs1 with h1 h2 h3
        subst h1 h2 h3 hs2
        rw [List.map_nil, List.append_nil] at hL'
        subst hL'
        clear hL1 hv hcv hne
        go_enter Try.func20, Try.ntmps20
        go_wp2_with (first | ((with_reducible refine gate_ (.store 26 (.tmp 142) (.tmp 141)) rfl ?_); go_must (have HL0 := Aside0.mk (R_lit_at .i64 (W := ((w.alloc (.cells #[.int .i64 3, .slice An n.length cn, .slice Ah h.length ch] 31)).alloc (.cells #[.int .i64 0, .slice none 0 0, .slice none 0 0] 31))) ((w.alloc (.cells #[.int .i64 3, .slice An n.length cn, .slice Ah h.length ch] 31)).alloc (.cells #[.int .i64 0, .slice none 0 0, .slice none 0 0] 31)).heap.size 3 _ [-1, -1] rfl (Nat.le_refl _) (by simp))); go_must (have H90 := Aside0.mk (HQ.out.below (below_alloc (Below.refl _ _) (.cells (nums .i64 [-1, -1]).toArray 3)))); go_must (have D90 := Aside0.mk ((RD.ofR HL0.out).mono (ok' := okS P w) (fun k hk => okS_new (by have := HQ.out.sz; omega)))); go_must (rw [alloc_size1, alloc_size1] at D90); have D90 := Aside0.mk (show RD (Kd.int .i64) _ _ (.slice (some ⟨w.heap.size + 1 + 1, 0, none⟩) 2 2) [-1, -1] from D90.out); go_must (refine step_cell 26 (.tmp 142) (.tmp 141) rfl rfl rfl (.slice (some ⟨w.heap.size + 1 + 1, 0, none⟩) 2 2) rfl rfl H90.out.b3 (show 1 < 3 from by decide) rfl (by kernel_rfl) rfl ?_); intro w91 hw; have H91 := Aside0.mk (H90.out.setn D90.out); have H91 := Aside0.mk (show RQ P w w91 _ _ _ _ _ _ _ by rw [hw]; exact H91.out); clear hw; obtain ⟨hc910, hc911, hc912, hf910, hf911, hf912⟩ := H91.out.cells) | ((with_reducible refine gate_ (.store 31 (.tmp 6) (.tmp 173)) rfl ?_); go_must (refine step_put (.tmp 6) (.tmp 173) rfl rfl rfl 3 _ _ rfl rfl H91.out.b6 rfl rfl rfl ?_); intro w1 hw; have HA := Aside0.mk (H91.out.ans 3 H91.out.rn H91.out.rh); rw [← hw] at HA; clear hw))
        all_goals refine bodyPost_ret (results_ct rfl _ _ (w.heap.size + 1) 31 _ (0, 0) _ rfl HA.out.1 Try.underlying31 rfl rfl) (by rfl) ?_
        all_goals exact HA.out.2
      · have hpos := List.length_pos_iff.2 hne
        have T00 : ((n.length : Int) == 0) = false := by rw [beq_eq_false_iff_ne]; omega
        obtain ⟨T, hT⟩ : ∃ T, n ++ [-1] = T := ⟨_, rfl⟩
        have hcv : cntV n 59 = (false, 3, T) := by unfold cntV; rw [if_neg (by omega), if_neg (by omega), if_pos rfl, if_neg hne, hT]
        have HT := Aside0.mk hT
        have hv : stepV ⟨3, n, h⟩ 59 = (⟨3, T, h⟩, []) := by unfold stepV; rw [if_neg cA, if_neg cB, if_neg (by simp), if_pos rfl]; simp [hcv]
        rw [hv] at hs
        injection hs with hs1 hs2
        injection hs1 with h1 h2 h3
        subst h1 h2 h3 hs2
        rw [List.map_nil, List.append_nil] at hL'
        subst hL'
        clear hL1 hv hT hcv hne hpos
        go_enter Try.func20, Try.ntmps20
        go_wp2_with (first | (((with_reducible refine gate_builtin (b := .append) (xs := #[.tmp 145, .tmp 147]) rfl ?_); at_builtin; (first | (refine unguard (by rfl) ?_; dsimp only) | skip); refine Kd.R_append_rows (Kd.int .i64) (w0 := ((w.alloc (.cells #[.int .i64 3, .slice An n.length cn, .slice Ah h.length ch] 31)).alloc (.cells #[.int .i64 0, .slice none 0 0, .slice none 0 0] 31))) ((w.alloc (.cells #[.int .i64 3, .slice An n.length cn, .slice Ah h.length ch] 31)).alloc (.cells #[.int .i64 0, .slice none 0 0, .slice none 0 0] 31)).heap.size rfl (.tmp 145) (.tmp 147) 26 3 (.int .i64 0) 8 rfl Try.underlying26 info3 rfl (by decide) (by omega) _ ([] : List Int) n _ _ _ (fun _ => True) (fun _ => False) rfl rfl ?aO ?aR (fun _ _ h => h) (fun _ h => h.elim) (fun _ _ => trivial) ?aB ?aS ?aL ?_; go_must (case aO => exact (R_lit_at .i64 (W := ((w.alloc (.cells #[.int .i64 3, .slice An n.length cn, .slice Ah h.length ch] 31)).alloc (.cells #[.int .i64 0, .slice none 0 0, .slice none 0 0] 31))) ((w.alloc (.cells #[.int .i64 3, .slice An n.length cn, .slice Ah h.length ch] 31)).alloc (.cells #[.int .i64 0, .slice none 0 0, .slice none 0 0] 31)).heap.size 3 _ [] (by rw [alloc_size1, alloc_size1]) (Nat.le_refl _) (by simp))); go_must (case aR => exact (Kd.C_below (Kd.F_now HQ.out.rn.F.1) (below_alloc (Below.refl _ _) _))); go_must (case aB => exact (below_alloc (Below.refl _ _) _)); go_must (case aS => exact (Below.size (below_alloc (Below.refl _ _) _))); go_must (case aL => (have := HP.out.nl; have := HM.out; dsimp only at *; show (0 + n.length) * 8 ≤ _; omega)); intro vP1 wP1 ho hb hg hat; (try simp only [List.nil_append] at ho); have P1 := Aside0.mk (And.intro ho hb); clear ho hb hg hat); obtain ⟨A1, c1, rfl⟩ := Kd.R_slice P1.out.1) | (((with_reducible refine gate_builtin (b := .append) (xs := #[.tmp 148, .tmp 149]) rfl ?_); at_builtin; (first | (refine unguard (by rfl) ?_; dsimp only) | skip); refine Kd.R_append_rows (Kd.int .i64) (w0 := ((w.alloc (.cells #[.int .i64 3, .slice An n.length cn, .slice Ah h.length ch] 31)).alloc (.cells #[.int .i64 0, .slice none 0 0, .slice none 0 0] 31))) ((w.alloc (.cells #[.int .i64 3, .slice An n.length cn, .slice Ah h.length ch] 31)).alloc (.cells #[.int .i64 0, .slice none 0 0, .slice none 0 0] 31)).heap.size rfl (.tmp 148) (.tmp 149) 26 3 (.int .i64 0) 8 rfl Try.underlying26 info3 rfl (by decide) (by omega) _ n [-1] _ _ _ (fun _ => True) (fun _ => False) rfl rfl ?aO ?aR (fun _ _ h => h) (fun _ h => h.elim) (fun _ _ => trivial) ?aB ?aS ?aL ?_; go_must (case aO => exact (Kd.R_alloc P1.out.1 _)); go_must (case aR => exact (Kd.R_reads' (R_lit_at .i64 (W := wP1) 0 3 _ [-1] (by simp) (by simp) (by simp))).2.2); go_must (case aB => exact (below_alloc P1.out.2 _)); go_must (case aS => exact (Below.size (below_alloc P1.out.2 _))); go_must (case aL => (have := HP.out.nl; have := HM.out; dsimp only at *; show (n.length + 1) * 8 ≤ _; omega)); intro vP2 wP2 ho hb hg hat; (try simp only [List.nil_append] at ho); have P2 := Aside0.mk (And.intro ho hb); clear ho hb hg hat); have q := P2.out.1; rw [HT.out] at q; have H90 := Aside0.mk (HQ.out.below P2.out.2); have D90 := Aside0.mk ((RD.ofR q).mono (ok' := okS P w) (fun k hk => okS_new (by have := HQ.out.sz; omega))); obtain ⟨A2, c2, rfl⟩ := Kd.R_slice q; obtain ⟨hc900, hc901, hc902, hf900, hf901, hf902⟩ := H90.out.cells; clear q) | ((with_reducible refine gate_ (.store 26 (.tmp 151) (.tmp 150)) rfl ?_); go_must (refine step_cell 26 (.tmp 151) (.tmp 150) rfl rfl rfl (.slice A2 T.length c2) rfl rfl H90.out.b3 (show 1 < 3 from by decide) rfl (by kernel_rfl) rfl ?_); intro w1 hw; have H1 := Aside0.mk (H90.out.setn D90.out); rw [← hw] at H1; clear hw; obtain ⟨hc10, hc11, hc12, hf10, hf11, hf12⟩ := H1.out.cells) | ((with_reducible refine gate_ (.store 31 (.tmp 6) (.tmp 173)) rfl ?_); go_must (refine step_put (.tmp 6) (.tmp 173) rfl rfl rfl 3 _ _ rfl rfl H1.out.b6 rfl rfl rfl ?_); intro w2 hw; have HA := Aside0.mk (H1.out.ans 3 H1.out.rn H1.out.rh); rw [← hw] at HA; clear hw))
        all_goals refine bodyPost_ret (results_ct rfl _ _ (w.heap.size + 1) 31 _ (0, 0) _ rfl HA.out.1 Try.underlying31 rfl rfl) (by rfl) ?_
        all_goals exact HA.out.2
    have T59 : (x == 59) = false := by rw [beq_eq_false_iff_ne]; exact c59
    have hT4 : (decide (x ≥ 48) && decide (x ≤ 57)) = false := by rw [Bool.and_eq_false_iff, decide_eq_false_iff_not, decide_eq_false_iff_not]; omega
    by_cases c48 : 48 ≤ x
    · have T48 : decide (x ≥ 48) = true := decide_eq_true c48
      have T57 : decide (x ≤ 57) = false := decide_eq_false (by omega)
      by_cases c64 : 64 ≤ x
      · have T64 : decide (x ≥ 64) = true := decide_eq_true c64
        obtain ⟨T, hT⟩ : ∃ T, n.take 8 = T := ⟨_, rfl⟩
        have hcv : cntV n x = (true, 0, n) := by unfold cntV; rw [if_pos c64]
        have HT := Aside0.mk hT
        have hv : stepV ⟨3, n, h⟩ x = (⟨0, n, h⟩, [⟨3, x, n.take 8⟩]) := by unfold stepV; rw [if_neg cA, if_neg cB, if_neg (by simp), if_pos rfl]; simp [hcv]
        rw [hv] at hs
        injection hs with hs1 hs2
        injection hs1 with h1 h2 h3
        subst h1 h2 h3 hs2
        subst hL'
        rw [hT]
        change Calls _ _ _ _ fun e w' => RPost P w w' e _ _ _ (L ++ [(⟨3, x, T⟩ : S48)])
        obtain ⟨L2, hL2⟩ : ∃ L2, L ++ [(⟨3, x, T⟩ : S48)] = L2 := ⟨_, rfl⟩
        rw [hL2]
        have HL2 := Aside0.mk hL2
        clear hL2
        clear hL1 hv hT hcv
        go_enter Try.func20, Try.ntmps20
        go_wp2_with (first | ((with_reducible refine gate_ (.store 3 (.tmp 154) (.const (.int .i64 0))) rfl ?_); go_must (refine step_cell 3 (.tmp 154) (.const (.int .i64 0)) rfl rfl rfl (.int .i64 0) rfl rfl HQ.out.b3 (show 0 < 3 from by decide) rfl (by kernel_rfl) rfl ?_); intro w1 hw; have H1 := Aside0.mk (HQ.out.setst 0); rw [← hw] at H1; clear hw; obtain ⟨hc10, hc11, hc12, hf10, hf11, hf12⟩ := H1.out.cells))
        have HSZ := H1.out.sz
        refine start_ (n := 14) (S := fun w' => w'.cell? ⟨w.heap.size, 0, none⟩ = some (.int .i64 0) ∧ w'.cell? ⟨w.heap.size, 1, none⟩ = some (.slice An n.length cn) ∧ w'.cell? ⟨w.heap.size, 2, none⟩ = some (.slice Ah h.length ch)) (ds := [12]) #[false, false, false, false, false, false, false, false, false, false, false, false, false, false] (by kernel_rfl) rfl rfl ⟨H1.out.cells.1, H1.out.cells.2.1, H1.out.cells.2.2.1⟩ (fun hHeld => ?_)
        refine pure_ (i := 2) (N := some 157) (v := ?_) (a' := ?_) #[false, false, true, false, false, false, false, false, false, false, false, false, false, false] rfl rfl (by kernel_rfl) (fun _ _ _ h => h) (Or.inl ⟨by rfl, ?_⟩) ?_ ?_
        rotate_left
        · intro w'
          go_simp
          with_reducible rfl
        rotate_left
        · simp only [Act.put, List.setIfInBounds_toArray, List.set_cons_zero, List.set_cons_succ, i64_w, i32_w]
          rfl
        refine pure_ (i := 4) (N := some 159) (v := ?_) (a' := ?_) #[false, false, true, false, true, false, false, false, false, false, false, false, false, false] rfl rfl (by kernel_rfl) (fun _ _ _ h => h) (Or.inl ⟨by rfl, ?_⟩) ?_ ?_
        rotate_left
        · intro w'
          go_simp
          with_reducible rfl
        rotate_left
        · simp only [Act.put, List.setIfInBounds_toArray, List.set_cons_zero, List.set_cons_succ, i64_w, i32_w]
          rfl
        refine pure_ (i := 5) (N := some 160) (v := ?_) (a' := ?_) #[false, false, true, false, true, true, false, false, false, false, false, false, false, false] rfl rfl (by kernel_rfl) (fun _ _ _ h => h) (Or.inl ⟨by rfl, ?_⟩) ?_ ?_
        rotate_left
        · intro w'
          go_simp
          with_reducible rfl
        rotate_left
        · simp only [Act.put, List.setIfInBounds_toArray, List.set_cons_zero, List.set_cons_succ, i64_w, i32_w]
          rfl
        refine pure_ (i := 6) (N := some 161) (v := ?_) (a' := ?_) #[false, false, true, false, true, true, true, false, false, false, false, false, false, false] rfl rfl (by kernel_rfl) (fun _ _ _ h => h) (Or.inl ⟨by rfl, ?_⟩) ?_ ?_
        rotate_left
        · intro w'
          go_simp
          with_reducible rfl
        rotate_left
        · simp only [Act.put, List.setIfInBounds_toArray, List.set_cons_zero, List.set_cons_succ, i64_w, i32_w]
          rfl
        refine take_ (i := 0) (N := some 155) (v := ?_) (a' := ?_) #[true, false, true, false, true, true, true, false, false, false, false, false, false, false] rfl rfl (by kernel_rfl) (fun _ _ _ h => h) (Or.inl ⟨by rfl, ?_⟩) hHeld ?_ ?_
        rotate_left
        · rintro w' ⟨s0, s1, s2⟩
          go_simp
          with_reducible rfl
        rotate_left
        · simp only [Act.put, List.setIfInBounds_toArray, List.set_cons_zero, List.set_cons_succ, i64_w, i32_w]
          rfl
        refine take_ (i := 7) (N := some 162) (v := ?_) (a' := ?_) #[true, false, true, false, true, true, true, true, false, false, false, false, false, false] rfl rfl (by kernel_rfl) (fun _ _ _ h => h) (Or.inl ⟨by rfl, ?_⟩) hHeld ?_ ?_
        rotate_left
        · rintro w' ⟨s0, s1, s2⟩
          go_simp
          with_reducible rfl
        rotate_left
        · simp only [Act.put, List.setIfInBounds_toArray, List.set_cons_zero, List.set_cons_succ, i64_w, i32_w]
          rfl
        refine one_ (i := 1) (N := some 156) #[true, true, true, false, true, true, true, true, false, false, false, false, false, false] rfl rfl (by kernel_rfl) (by decide) (fun K hK => ?_)
        refine value_ (w1 := ?_) (v := ?_) (by rfl) rfl ?_ ?_
        rotate_left 2
        · go_simp
          constructor
          · rfl
          · rfl
        skip
        refine hK.out _ _ ⟨(H1.out.below (show Below w1.heap.size w1 (w1.drew.alloc (.cells #[] 48)) from (below_alloc (below_drew (Below.refl _ _)) (.cells #[] 48)))).cells.1, (H1.out.below (show Below w1.heap.size w1 (w1.drew.alloc (.cells #[] 48)) from (below_alloc (below_drew (Below.refl _ _)) (.cells #[] 48)))).cells.2.1, (H1.out.below (show Below w1.heap.size w1 (w1.drew.alloc (.cells #[] 48)) from (below_alloc (below_drew (Below.refl _ _)) (.cells #[] 48)))).cells.2.2.1⟩ (fun hHeld => ?_)
        clear hK K
        refine norm_ (a' := ?_) ?_ ?_
        rotate_left
        · show Act.put _ (some 156) _ = _
          simp only [Act.put, List.setIfInBounds_toArray, List.set_cons_zero, List.set_cons_succ, i64_w, i32_w]
          rfl
        refine one_ (i := 3) (N := some 158) #[true, true, true, true, true, true, true, true, false, false, false, false, false, false] rfl rfl (by kernel_rfl) (by decide) (fun K hK => ?_)
        refine Kd.N_append_rows_step kE8 (w0 := w1) w1.heap.size (by rfl) (.tmp 156) (.tmp 157) 32 48 _ 40 (by rfl) Try.underlying32 infoE8 rfl (by decide) (by omega) (.slice (some ⟨w1.heap.size, 0, none⟩) 0 0) [] L Ao _ co (okS P w) (fun k => okS P w k ∧ k < w1.heap.size) (by rfl) (by rfl) (emptyE' w1.drew w1.heap.size w1.heap.size _ (Nat.le_refl _) rfl (okS_new (by have := HSZ; omega))) (Kd.F_below (Kd.F_bound H1.out.ro.F.1) (show Below w1.heap.size w1 (w1.drew.alloc (.cells #[] 48)) from (below_alloc (below_drew (Below.refl _ _)) (.cells #[] 48)))) (fun k hk => ⟨hk.1, fun h => by have := hk.2; simp [Value.ownBlock] at h; omega⟩) (fun k hk => okS_new (by have h2 := Nat.le_trans (show Below w1.heap.size w1 (w1.drew.alloc (.cells #[] 48)) from (below_alloc (below_drew (Below.refl _ _)) (.cells #[] 48))).size hk; have := HSZ; omega)) (show Below w1.heap.size w1 (w1.drew.alloc (.cells #[] 48)) from (below_alloc (below_drew (Below.refl _ _)) (.cells #[] 48))) (show Below w1.heap.size w1 (w1.drew.alloc (.cells #[] 48)) from (below_alloc (below_drew (Below.refl _ _)) (.cells #[] 48))).size (by simp; have := HLL.out; omega) ?_
        intro v4 w4 ho hb hg hat
        rw [List.nil_append] at ho
        have HN4 := Aside0.mk ho
        have HB4 := Aside0.mk hb
        clear ho hb hg hat
        refine hK.out _ _ ⟨(H1.out.below HB4.out).cells.1, (H1.out.below HB4.out).cells.2.1, (H1.out.below HB4.out).cells.2.2.1⟩ (fun hHeld => ?_)
        clear hK K
        refine norm_ (a' := ?_) ?_ ?_
        rotate_left
        · show Act.put _ (some 158) _ = _
          simp only [Act.put, List.setIfInBounds_toArray, List.set_cons_zero, List.set_cons_succ, i64_w, i32_w]
          rfl
        refine one_ (i := 8) (N := some 163) #[true, true, true, true, true, true, true, true, true, false, false, false, false, false] rfl rfl (by kernel_rfl) (by decide) (fun K hK => ?_)
        refine goes_ Try.func34 (by kernel_rfl) rfl #[.slice An n.length cn] (by rfl) rfl rfl (by first | (simp only [List.map_toArray, List.map_cons, List.map_nil]; done) | (simp only [List.map_toArray, List.map_cons, List.map_nil]; rfl)) ?_
        with_reducible refine (first_any An cn n _ H1.out.rn.F.2).mono ?_
        rintro e w5 ⟨rfl, hw⟩
        refine ⟨_, rfl, ?_⟩
        rw [HT.out]
        have HN5 := Aside0.mk (show Kd.N kE8 48 w5 w1.heap.size (okS P w) v4 L by rw [hw]; exact HN4.out)
        have HB5 := Aside0.mk (show Below w1.heap.size w1 w5 by rw [hw]; exact HB4.out)
        have qn := takeF (Kd.F_below (Kd.F_bound H1.out.rn.F.1) HB5.out) 8
        rw [HT.out] at qn
        have HNT := Aside0.mk (And.intro qn (show T.length ≤ cn from Nat.le_trans (by rw [← HT.out, List.length_take]; omega) H1.out.rn.F.2))
        clear hw qn
        refine hK.out _ _ ⟨(H1.out.below HB5.out).cells.1, (H1.out.below HB5.out).cells.2.1, (H1.out.below HB5.out).cells.2.2.1⟩ (fun hHeld => ?_)
        clear hK K
        refine norm_ (a' := ?_) ?_ ?_
        rotate_left
        · show Act.put _ (some 163) _ = _
          simp only [Act.put, List.setIfInBounds_toArray, List.set_cons_zero, List.set_cons_succ, i64_w, i32_w]
          rfl
        refine pure_ (i := 9) (N := some 164) (v := ?_) (a' := ?_) #[true, true, true, true, true, true, true, true, true, true, false, false, false, false] rfl rfl (by kernel_rfl) (fun _ _ _ h => h) (Or.inl ⟨by rfl, ?_⟩) ?_ ?_
        rotate_left
        · intro w'
          go_simp
          with_reducible rfl
        rotate_left
        · simp only [Act.put, List.setIfInBounds_toArray, List.set_cons_zero, List.set_cons_succ, i64_w, i32_w]
          rfl
        refine one_ (i := 10) (N := some 165) #[true, true, true, true, true, true, true, true, true, true, true, false, false, false] rfl rfl (by kernel_rfl) (by decide) (fun K hK => ?_)
        refine value_ (w1 := ?_) (v := ?_) (by rfl) rfl ?_ ?_
        rotate_left 2
        · go_simp
          constructor
          · rfl
          · rfl
        skip
        refine hK.out _ _ ⟨(H1.out.below (below_alloc HB5.out (.cells #[.int .i64 3, .int .i64 x, .slice An T.length cn] 48))).cells.1, (H1.out.below (below_alloc HB5.out (.cells #[.int .i64 3, .int .i64 x, .slice An T.length cn] 48))).cells.2.1, (H1.out.below (below_alloc HB5.out (.cells #[.int .i64 3, .int .i64 x, .slice An T.length cn] 48))).cells.2.2.1⟩ (fun hHeld => ?_)
        clear hK K
        refine norm_ (a' := ?_) ?_ ?_
        rotate_left
        · show Act.put _ (some 165) _ = _
          simp only [Act.put, List.setIfInBounds_toArray, List.set_cons_zero, List.set_cons_succ, i64_w, i32_w]
          rfl
        refine one_ (i := 11) (N := some 166) #[true, true, true, true, true, true, true, true, true, true, true, true, false, false] rfl rfl (by kernel_rfl) (by decide) (fun K hK => ?_)
        refine Kd.N_append_rows_step kE8 (w0 := w1) w1.heap.size (by rfl) (.tmp 158) (.tmp 165) 32 48 _ 40 (by rfl) Try.underlying32 infoE8 rfl (by decide) (by omega) v4 L [(⟨3, x, T⟩ : S48)] (some ⟨w5.heap.size, 0, none⟩) 1 1 (okS P w) _ (by rfl) (by rfl) (Kd.N_alloc HN5.out _) (evLit8 w5 3 x An cn T _ HNT.out.1 HNT.out.2) (fun k hk => hk.elim (fun h => ⟨okS_new (by have := HSZ; have := HB5.out.size; omega), fun e => by have := Kd.N_lt HN5.out k e.symm; omega⟩) (fun h => ⟨h.1.1, fun e => by have := Kd.N_base HN5.out k e.symm; have := h.1.2; omega⟩)) (fun k hk => okS_new (by have h2 := Nat.le_trans (below_alloc HB5.out (.cells #[.int .i64 3, .int .i64 x, .slice An T.length cn] 48)).size hk; have := HSZ; omega)) (below_alloc HB5.out _) (below_alloc HB5.out (.cells #[.int .i64 3, .int .i64 x, .slice An T.length cn] 48)).size (by have := HLL.out; omega) ?_
        intro v6 w6 ho hb hg hat
        rw [HL2.out] at ho
        have HB6 := Aside0.mk hb
        have H6 := Aside0.mk ((H1.out.below hb).out (RD.ofN ho))
        clear ho hb hg hat
        refine hK.out _ _ ⟨H6.out.cells.1, H6.out.cells.2.1, H6.out.cells.2.2.1⟩ (fun hHeld => ?_)
        clear hK K
        refine norm_ (a' := ?_) ?_ ?_
        rotate_left
        · show Act.put _ (some 166) _ = _
          simp only [Act.put, List.setIfInBounds_toArray, List.set_cons_zero, List.set_cons_succ, i64_w, i32_w]
          rfl
        refine last_ (i := 12) (N := none) #[true, true, true, true, true, true, true, true, true, true, true, true, true, false] rfl rfl (by kernel_rfl) (by decide) (fun K hK => ?_)
        refine skip_ (w1 := pOut w6 (w.heap.size + 1) 0 (.slice An n.length cn) (.slice Ah h.length ch)) (by rfl) rfl (exec_put (.tmp 6) (.tmp 155) rfl 0 _ _ rfl rfl H6.out.b6 rfl rfl rfl) ?_
        have HA := Aside0.mk (H6.out.ans 0 H6.out.rn H6.out.rh)
        refine hK.out _ _ ?_
        clear hK K
        refine pure_ (i := 13) (N := some 7) (v := ?_) (a' := ?_) #[true, true, true, true, true, true, true, true, true, true, true, true, true, true] rfl rfl (by kernel_rfl) (fun _ _ _ h => h) (Or.inl ⟨by rfl, ?_⟩) ?_ ?_
        rotate_left
        · intro w'
          go_simp
          with_reducible rfl
        rotate_left
        · simp only [Act.put, List.setIfInBounds_toArray, List.set_cons_zero, List.set_cons_succ, i64_w, i32_w]
          rfl
        refine done_ (by kernel_rfl) ?_
        all_goals go_wp2
        all_goals refine bodyPost_ret (results_ct rfl _ _ (w.heap.size + 1) 31 _ (0, 0) _ rfl HA.out.1 Try.underlying31 rfl rfl) (by rfl) ?_
        all_goals exact HA.out.2
      · have T64 : decide (x ≥ 64) = false := decide_eq_false (by omega)
        have hcv : cntV n x = (false, 4, n) := by unfold cntV; rw [if_neg (by omega), if_neg c57, if_neg c59]
        have hv : stepV ⟨3, n, h⟩ x = (⟨4, n, h⟩, []) := by unfold stepV; rw [if_neg cA, if_neg cB, if_neg (by simp), if_pos rfl]; simp [hcv]
        rw [hv] at hs
        injection hs with hs1 hs2
        injection hs1 with h1 h2 h3
        subst h1 h2 h3 hs2
        rw [List.map_nil, List.append_nil] at hL'
        subst hL'
        clear hL1 hv hcv
        go_enter Try.func20, Try.ntmps20
        go_wp2_with (first | ((with_reducible refine gate_ (.store 3 (.tmp 167) (.const (.int .i64 4))) rfl ?_); go_must (refine step_cell 3 (.tmp 167) (.const (.int .i64 4)) rfl rfl rfl (.int .i64 4) rfl rfl HQ.out.b3 (show 0 < 3 from by decide) rfl (by kernel_rfl) rfl ?_); intro w1 hw; have H1 := Aside0.mk (HQ.out.setst 4); rw [← hw] at H1; clear hw; obtain ⟨hc10, hc11, hc12, hf10, hf11, hf12⟩ := H1.out.cells) | ((with_reducible refine gate_ (.store 31 (.tmp 6) (.tmp 173)) rfl ?_); go_must (refine step_put (.tmp 6) (.tmp 173) rfl rfl rfl 4 _ _ rfl rfl H1.out.b6 rfl rfl rfl ?_); intro w2 hw; have HA := Aside0.mk (H1.out.ans 4 H1.out.rn H1.out.rh); rw [← hw] at HA; clear hw))
        all_goals refine bodyPost_ret (results_ct rfl _ _ (w.heap.size + 1) 31 _ (0, 0) _ rfl HA.out.1 Try.underlying31 rfl rfl) (by rfl) ?_
        all_goals exact HA.out.2
    · have T48 : decide (x ≥ 48) = false := decide_eq_false c48
      have T64 : decide (x ≥ 64) = false := decide_eq_false (by omega)
      have hcv : cntV n x = (false, 4, n) := by unfold cntV; rw [if_neg (by omega), if_neg c57, if_neg c59]
      have hv : stepV ⟨3, n, h⟩ x = (⟨4, n, h⟩, []) := by unfold stepV; rw [if_neg cA, if_neg cB, if_neg (by simp), if_pos rfl]; simp [hcv]
      rw [hv] at hs
      injection hs with hs1 hs2
      injection hs1 with h1 h2 h3
      subst h1 h2 h3 hs2
      rw [List.map_nil, List.append_nil] at hL'
      subst hL'
      clear hL1 hv hcv
      go_enter Try.func20, Try.ntmps20
      go_wp2_with (first | ((with_reducible refine gate_ (.store 3 (.tmp 167) (.const (.int .i64 4))) rfl ?_); go_must (refine step_cell 3 (.tmp 167) (.const (.int .i64 4)) rfl rfl rfl (.int .i64 4) rfl rfl HQ.out.b3 (show 0 < 3 from by decide) rfl (by kernel_rfl) rfl ?_); intro w1 hw; have H1 := Aside0.mk (HQ.out.setst 4); rw [← hw] at H1; clear hw; obtain ⟨hc10, hc11, hc12, hf10, hf11, hf12⟩ := H1.out.cells) | ((with_reducible refine gate_ (.store 31 (.tmp 6) (.tmp 173)) rfl ?_); go_must (refine step_put (.tmp 6) (.tmp 173) rfl rfl rfl 4 _ _ rfl rfl H1.out.b6 rfl rfl rfl ?_); intro w2 hw; have HA := Aside0.mk (H1.out.ans 4 H1.out.rn H1.out.rh); rw [← hw] at HA; clear hw))
      all_goals refine bodyPost_ret (results_ct rfl _ _ (w.heap.size + 1) 31 _ (0, 0) _ rfl HA.out.1 Try.underlying31 rfl rfl) (by rfl) ?_
      all_goals exact HA.out.2
  obtain rfl : st = 4 := by have := HP.out.st0; have := HP.out.st4; dsimp only at *; omega
  by_cases c64 : 64 ≤ x
  · have T64 : decide (x ≥ 64) = true := decide_eq_true c64
    have hv : stepV ⟨4, n, h⟩ x = (⟨0, n, h⟩, []) := by unfold stepV; rw [if_neg cA, if_neg cB, if_neg (by simp), if_neg (by simp)]; simp [c64]
    rw [hv] at hs
    injection hs with hs1 hs2
    injection hs1 with h1 h2 h3
    subst h1 h2 h3 hs2
    rw [List.map_nil, List.append_nil] at hL'
    subst hL'
    clear hL1 hv
    go_enter Try.func20, Try.ntmps20
    go_wp2_with (first | ((with_reducible refine gate_ (.store 3 (.tmp 172) (.const (.int .i64 0))) rfl ?_); go_must (refine step_cell 3 (.tmp 172) (.const (.int .i64 0)) rfl rfl rfl (.int .i64 0) rfl rfl HQ.out.b3 (show 0 < 3 from by decide) rfl (by kernel_rfl) rfl ?_); intro w1 hw; have H1 := Aside0.mk (HQ.out.setst 0); rw [← hw] at H1; clear hw; obtain ⟨hc10, hc11, hc12, hf10, hf11, hf12⟩ := H1.out.cells) | ((with_reducible refine gate_ (.store 31 (.tmp 6) (.tmp 173)) rfl ?_); go_must (refine step_put (.tmp 6) (.tmp 173) rfl rfl rfl 0 _ _ rfl rfl H1.out.b6 rfl rfl rfl ?_); intro w2 hw; have HA := Aside0.mk (H1.out.ans 0 H1.out.rn H1.out.rh); rw [← hw] at HA; clear hw))
    all_goals refine bodyPost_ret (results_ct rfl _ _ (w.heap.size + 1) 31 _ (0, 0) _ rfl HA.out.1 Try.underlying31 rfl rfl) (by rfl) ?_
    all_goals exact HA.out.2
  · have T64 : decide (x ≥ 64) = false := decide_eq_false c64
    have hv : stepV ⟨4, n, h⟩ x = (⟨4, n, h⟩, []) := by unfold stepV; rw [if_neg cA, if_neg cB, if_neg (by simp), if_neg (by simp)]; simp [c64]
    rw [hv] at hs
    injection hs with hs1 hs2
    injection hs1 with h1 h2 h3
    subst h1 h2 h3 hs2
    rw [List.map_nil, List.append_nil] at hL'
    subst hL'
    clear hL1 hv
    go_enter Try.func20, Try.ntmps20
    go_wp2_with (first | ((with_reducible refine gate_ (.store 31 (.tmp 6) (.tmp 173)) rfl ?_); go_must (refine step_put (.tmp 6) (.tmp 173) rfl rfl rfl 4 _ _ rfl rfl HQ.out.b6 rfl rfl rfl ?_); intro w1 hw; have HA := Aside0.mk (HQ.out.ans 4 HQ.out.rn HQ.out.rh); rw [← hw] at HA; clear hw))
    all_goals refine bodyPost_ret (results_ct rfl _ _ (w.heap.size + 1) 31 _ (0, 0) _ rfl HA.out.1 Try.underlying31 rfl rfl) (by rfl) ?_
    all_goals exact HA.out.2
end Go.Proofs.Ytlllbaieidbcdaa.Str
