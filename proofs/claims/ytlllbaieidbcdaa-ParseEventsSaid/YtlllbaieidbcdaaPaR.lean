/- The document's parser: a step, the other bytes. -/
import Derived.Test.YtlllbaieidbcdaaPaO
namespace Go.Proofs.Ytlllbaieidbcdaa.Str
open Go.RowKit Go.Proofs.Ytlllbaieidbcdaa Go.Proofs.Ytlllbaieidbcdaa.PParseEvents Go.Proofs.YtlllbaieidbcdaaW.PrintWords Go.Proofs.YtlllbaieidbcdaaW.PrintLast Go.Proofs.YtlllbaieidbcdaaW.PrintMore
set_option linter.unusedVariables false
set_option linter.unusedSimpArgs false
set_option maxRecDepth 100000 in
set_option maxHeartbeats 8000000 in
theorem Step_B (w : World) (st : Int) (n h : List Int) (m : Nat) (An : Option Addr) (cn : Nat) (Ah : Option Addr) (ch : Nat) (Ao : Option Addr) (co : Nat) (L : List S48) (x : Int) (P : Nat → Prop) (hp : (⟨st, n, h⟩ : PP).ok m) (hm : m ≤ 10000)
    (hn : RD (Kd.int .i64) w P (.slice An n.length cn) n) (hh : RD (Kd.int .u8) w P (.slice Ah h.length ch) h) (ho : RD kE8 w P (.slice Ao L.length co) L) (hl : L.length ≤ 100000) (hx8 : 0 ≤ x ∧ x ≤ 255) (cA : ¬ (x < 32 ∨ x = 127)) (cB : 128 ≤ x ∨ st = 0)
    {st' : Int} {n' h' : List Int} {E : List Evt} (hs : stepV ⟨st, n, h⟩ x = (⟨st', n', h'⟩, E)) {L' : List S48} (hL' : L ++ E.map ev48 = L') :
    Calls Try.prog 20 #[.agg #[.int .i64 st, .slice An n.length cn, .slice Ah h.length ch], .slice Ao L.length co, .int .u8 x] w fun e w' => RPost P w w' e st' n' h' L' := by
  have hQ0 : RQ P w ((w.alloc (.cells #[.int .i64 st, .slice An n.length cn, .slice Ah h.length ch] 31)).alloc (.cells #[.int .i64 0, .slice none 0 0, .slice none 0 0] 31)) st n h (.slice An n.length cn) (.slice Ah h.length ch) (.slice Ao L.length co) L := by
    have hb : Below w.heap.size w ((w.alloc (.cells #[.int .i64 st, .slice An n.length cn, .slice Ah h.length ch] 31)).alloc (.cells #[.int .i64 0, .slice none 0 0, .slice none 0 0] 31)) := below_alloc (below_alloc (Below.refl _ _) _) _
    refine ⟨blk_alloc (blk_new w _) _, ?_, hb, (hn.bound.below hb).mono (fun k hk => ⟨by omega, by omega, fun _ => hk.1⟩), (hh.bound.below hb).mono (fun k hk => ⟨by omega, by omega, fun _ => hk.1⟩), (ho.bound.below hb).mono (fun k hk => ⟨by omega, by omega, fun _ => hk.1⟩)⟩
    have := blk_new (w.alloc (.cells #[.int .i64 st, .slice An n.length cn, .slice Ah h.length ch] 31)) (.cells #[.int .i64 0, .slice none 0 0, .slice none 0 0] 31)
    rwa [alloc_size1] at this
  have HQ := Aside0.mk hQ0
  have HP := Aside0.mk hp
  have HLL := Aside0.mk (show L.length ≤ 1000000 by omega)
  have HM := Aside0.mk hm
  have HX8 := Aside0.mk hx8
  have hw64 : IntKind.i64.wrap x = x := by rw [i64_w, w64 (by omega) (by omega)]
  have hw64' : wrap64 x = x := w64 (by omega) (by omega)
  obtain ⟨L1, hL1⟩ : ∃ L1, L ++ (flushV h).map ev48 = L1 := ⟨_, rfl⟩
  have HL1 := Aside0.mk hL1
  have HLL1 := Aside0.mk (show L1.length ≤ 200000 by rw [← hL1, List.length_append, List.length_map]; have := flushV_len h; omega)
  clear hQ0 hn hh ho hm hp
  -- BODY
  have T32 : decide (x < 32) = false := decide_eq_false (fun h => cA (.inl h))
  have T127 : (x == 127) = false := by rw [beq_eq_false_iff_ne]; exact fun h => cA (.inr h)
  have T24 : (x == 24) = false := by rw [beq_eq_false_iff_ne]; omega
  have T26 : (x == 26) = false := by rw [beq_eq_false_iff_ne]; omega
  have T27 : (x == 27) = false := by rw [beq_eq_false_iff_ne]; omega
  obtain ⟨HX, hHX⟩ : ∃ l, h ++ [x] = l := ⟨_, rfl⟩
  obtain ⟨⟨sc, hl0⟩, hcu⟩ : ∃ q, cutZ HX = q := ⟨_, rfl⟩
  have hscl := cutZ_len HX
  rw [hcu] at hscl
  dsimp only at hscl
  have hHXl : HX.length ≤ 4 := by rw [← hHX, List.length_append, List.length_singleton]; have := HP.out.l3; dsimp only at this; omega
  have HCL := Aside0.mk (show sc.length ≤ 4 by omega)
  have HCU := Aside0.mk (And.intro hcu (And.intro (show In8u HX by rw [← hHX]; exact fun y hy => (List.mem_append.1 hy).elim (HP.out.h8 y) (fun hy => by rw [List.mem_singleton.1 hy]; omega)) (show HX.length ≤ 1000 by omega)))
  have HHX := Aside0.mk hHX
  have hv : stepV ⟨st, n, h⟩ x = (⟨0, n, hl0⟩, prV sc) := by unfold stepV; rw [if_neg cA, if_pos cB]; simp only [hHX, hcu]
  rw [hv] at hs
  injection hs with hs1 hs2
  injection hs1 with h1 h2 h3
  subst h1 h2 h3 hs2
  subst hL'
  clear hL1 hv hHX hcu hscl hHXl
  by_cases c128 : 128 ≤ x
  · have T128 : decide (x ≥ 128) = true := decide_eq_true c128
    go_enter Try.func20, Try.ntmps20
    go_wp2_with (first | (((with_reducible refine gate_builtin (b := .append) (xs := #[.tmp 71, .tmp 73]) rfl ?_); at_builtin; (first | (refine unguard (by rfl) ?_; dsimp only) | skip); refine Kd.R_append_rows (Kd.int .u8) (w0 := ((w.alloc (.cells #[.int .i64 st, .slice An n.length cn, .slice Ah h.length ch] 31)).alloc (.cells #[.int .i64 0, .slice none 0 0, .slice none 0 0] 31))) ((w.alloc (.cells #[.int .i64 st, .slice An n.length cn, .slice Ah h.length ch] 31)).alloc (.cells #[.int .i64 0, .slice none 0 0, .slice none 0 0] 31)).heap.size rfl (.tmp 71) (.tmp 73) 29 5 (.int .u8 0) 1 rfl Try.underlying29 info5 rfl (by decide) (by omega) _ ([] : List Int) h _ _ _ (fun _ => True) (fun _ => False) rfl rfl ?aO ?aR (fun _ _ h => h) (fun _ h => h.elim) (fun _ _ => trivial) ?aB ?aS ?aL ?_; go_must (case aO => exact (R_lit_at .u8 (W := ((w.alloc (.cells #[.int .i64 st, .slice An n.length cn, .slice Ah h.length ch] 31)).alloc (.cells #[.int .i64 0, .slice none 0 0, .slice none 0 0] 31))) ((w.alloc (.cells #[.int .i64 st, .slice An n.length cn, .slice Ah h.length ch] 31)).alloc (.cells #[.int .i64 0, .slice none 0 0, .slice none 0 0] 31)).heap.size 5 _ [] (by rw [alloc_size1, alloc_size1]) (Nat.le_refl _) (by simp))); go_must (case aR => exact (Kd.C_below (Kd.F_now HQ.out.rh.F.1) (below_alloc (Below.refl _ _) _))); go_must (case aB => exact (below_alloc (Below.refl _ _) _)); go_must (case aS => exact (Below.size (below_alloc (Below.refl _ _) _))); go_must (case aL => (have h3 := HP.out.l3; show (0 + h.length) * 1 ≤ _; have h4 : h.length ≤ 3 := h3; omega)); intro vP1 wP1 ho hb hg hat; (try simp only [List.nil_append] at ho); have P1 := Aside0.mk (And.intro ho hb); clear ho hb hg hat); obtain ⟨A1, c1, rfl⟩ := Kd.R_slice P1.out.1) | (((with_reducible refine gate_builtin (b := .append) (xs := #[.tmp 74, .tmp 76]) rfl ?_); at_builtin; (first | (refine unguard (by rfl) ?_; dsimp only) | skip); refine Kd.R_append_rows (Kd.int .u8) (w0 := ((w.alloc (.cells #[.int .i64 st, .slice An n.length cn, .slice Ah h.length ch] 31)).alloc (.cells #[.int .i64 0, .slice none 0 0, .slice none 0 0] 31))) ((w.alloc (.cells #[.int .i64 st, .slice An n.length cn, .slice Ah h.length ch] 31)).alloc (.cells #[.int .i64 0, .slice none 0 0, .slice none 0 0] 31)).heap.size rfl (.tmp 74) (.tmp 76) 29 5 (.int .u8 0) 1 rfl Try.underlying29 info5 rfl (by decide) (by omega) _ h [x] _ _ _ (fun _ => True) (fun _ => False) rfl rfl ?aO ?aR (fun _ _ h => h) (fun _ h => h.elim) (fun _ _ => trivial) ?aB ?aS ?aL ?_; go_must (case aO => exact (Kd.R_alloc P1.out.1 _)); go_must (case aR => exact (Kd.R_reads' (R_lit_at .u8 (W := wP1) 0 5 _ [x] (by simp) (by simp) (by simp))).2.2); go_must (case aB => exact (below_alloc P1.out.2 _)); go_must (case aS => exact (Below.size (below_alloc P1.out.2 _))); go_must (case aL => (have h3 := HP.out.l3; have h4 : h.length ≤ 3 := h3; show (h.length + 1) * 1 ≤ _; omega)); intro vP2 wP2 ho hb hg hat; (try simp only [List.nil_append] at ho); have P2 := Aside0.mk (And.intro ho hb); clear ho hb hg hat); have q := P2.out.1; rw [HHX.out] at q; have P3 := Aside0.mk q; obtain ⟨A2, c2, rfl⟩ := Kd.R_slice q; clear q) | (go_at_call 32; go_must (refine (RQ_cut wP2 A2 c2 HX _ (RD.ofR P3.out).F.1 (RD.ofR P3.out).F.2 HCU.out.2.1 HCU.out.2.2 HCU.out.1).mono ?_); rintro e w3 ⟨A3, c3, A4, c4, rfl, hD3, hD4, hb3⟩; have H3 := Aside0.mk (HQ.out.below (below_then P2.out.2 P2.out.2.size hb3)); have D3 := Aside0.mk (And.intro (hD3.mono (ok' := okS P w) (fun k hk => okS_new (by have := HQ.out.sz; have := P2.out.2.size; rcases hk with hk | hk <;> omega))) (hD4.mono (ok' := okS P w) (fun k hk => okS_new (by have := HQ.out.sz; have := P2.out.2.size; rcases hk with hk | hk <;> omega)))); clear hD3 hD4 hb3))
    go_loopg [1, 10] (sc.length + 1) (fun kq v1 v10 w' => ∃ (i : Nat) (Ao' : Option Addr) (co' : Nat) (M : List S48), v10 = .int .i64 i ∧ v1 = .slice Ao' M.length co' ∧ Aside0 (kq + i = sc.length + 1 ∧ i ≤ sc.length) ∧ Aside0 (M = L ++ (prV (sc.take i)).map ev48) ∧ Aside0 (RQ P w w' st n h (.slice An n.length cn) (.slice Ah h.length ch) (.slice Ao' M.length co') M) ∧ Aside0 (RD (Kd.int .i64) w' (okS P w) (.slice A3 sc.length c3) sc ∧ RD (Kd.int .u8) w' (okS P w) (.slice A4 hl0.length c4) hl0))
    case atStart => exact ⟨0, Ao, co, L, rfl, rfl, ⟨by omega, by omega⟩, ⟨by simp [prV]⟩, H3, D3⟩
    case round =>
      obtain ⟨i, Ao', co', M, rfl, rfl, HK, HM', HR, HD⟩ := hrel
      have hscl : sc.length ≤ 4 := HCL.out
      have HLL1 := Aside0.mk (show M.length ≤ 200000 by rw [HM'.out, List.length_append, List.length_map, prV, List.length_map, List.length_take]; omega)
      have HSZ := HR.out.sz
      obtain ⟨hc0, hc1, hc2, hf0, hf1, hf2⟩ := HR.out.cells
      by_cases hi : i < sc.length
      · have hT1 : decide ((i : Int) < (sc.length : Int)) = true := decide_eq_true (by omega)
        obtain ⟨ad, hA3, hcell⟩ := Kd.at_int (Kd.F_now HD.out.1.F.1) (i : Int) (by omega) (by omega)
        subst hA3
        rw [Int.toNat_natCast] at hcell
        have htk := take_rd hi
        obtain ⟨r, hr⟩ : ∃ r, rd sc (i : Int) = r := ⟨_, rfl⟩
        rw [hr] at hcell htk
        obtain ⟨M2, hM2⟩ : ∃ M2, M ++ [(⟨1, r, []⟩ : S48)] = M2 := ⟨_, rfl⟩
        have HM2 := Aside0.mk hM2
        have HTK := Aside0.mk (show M2 = L ++ (prV (sc.take (i + 1))).map ev48 by rw [← hM2, HM'.out, htk]; simp [prV, ev48])
        clear hr htk hM2
        go_wp2
        refine start_ (n := 11) (S := fun w' => w'.cell? (ad.add i) = some (.int .i64 r)) (ds := []) #[false, false, false, false, false, false, false, false, false, false, false] (by kernel_rfl) rfl rfl (hcell) (fun hHeld => ?_)
        refine pure_ (i := 1) (N := some 88) (v := ?_) (a' := ?_) #[false, true, false, false, false, false, false, false, false, false, false] rfl rfl (by kernel_rfl) (fun _ _ _ h => h) (Or.inl ⟨by rfl, ?_⟩) ?_ ?_
        rotate_left
        · intro w'
          go_simp
          with_reducible rfl
        rotate_left
        · simp only [Act.put, List.setIfInBounds_toArray, List.set_cons_zero, List.set_cons_succ, i64_w, i32_w]
          rfl
        refine pure_ (i := 3) (N := some 90) (v := ?_) (a' := ?_) #[false, true, false, true, false, false, false, false, false, false, false] rfl rfl (by kernel_rfl) (fun _ _ _ h => h) (Or.inl ⟨by rfl, ?_⟩) ?_ ?_
        rotate_left
        · intro w'
          go_simp
          with_reducible rfl
        rotate_left
        · simp only [Act.put, List.setIfInBounds_toArray, List.set_cons_zero, List.set_cons_succ, i64_w, i32_w]
          rfl
        refine pure_ (i := 4) (N := some 91) (v := ?_) (a' := ?_) #[false, true, false, true, true, false, false, false, false, false, false] rfl rfl (by kernel_rfl) (fun _ _ _ h => h) (Or.inl ⟨by rfl, ?_⟩) ?_ ?_
        rotate_left
        · intro w'
          go_simp
          with_reducible rfl
        rotate_left
        · simp only [Act.put, List.setIfInBounds_toArray, List.set_cons_zero, List.set_cons_succ, i64_w, i32_w]
          rfl
        refine pure_ (i := 5) (N := some 92) (v := ?_) (a' := ?_) #[false, true, false, true, true, true, false, false, false, false, false] rfl rfl (by kernel_rfl) (fun _ _ _ h => h) (Or.inl ⟨by rfl, ?_⟩) ?_ ?_
        rotate_left
        · intro w'
          go_simp
          with_reducible rfl
        rotate_left
        · simp only [Act.put, List.setIfInBounds_toArray, List.set_cons_zero, List.set_cons_succ, i64_w, i32_w]
          rfl
        refine take_ (i := 6) (N := some 93) (v := ?_) (a' := ?_) #[false, true, false, true, true, true, true, false, false, false, false] rfl rfl (by kernel_rfl) (fun _ _ _ h => h) (Or.inl ⟨by rfl, ?_⟩) hHeld ?_ ?_
        rotate_left
        · intro w' s0
          go_simp
          with_reducible rfl
        rotate_left
        · simp only [Act.put, List.setIfInBounds_toArray, List.set_cons_zero, List.set_cons_succ, i64_w, i32_w]
          rfl
        refine pure_ (i := 7) (N := some 94) (v := ?_) (a' := ?_) #[false, true, false, true, true, true, true, true, false, false, false] rfl rfl (by kernel_rfl) (fun _ _ _ h => h) (Or.inl ⟨by rfl, ?_⟩) ?_ ?_
        rotate_left
        · intro w'
          go_simp
          with_reducible rfl
        rotate_left
        · simp only [Act.put, List.setIfInBounds_toArray, List.set_cons_zero, List.set_cons_succ, i64_w, i32_w]
          rfl
        refine join_ (σ := Value × Value × Nat) 2 #[true, true, true, true, true, true, true, true, true, false, false] (fun s => [(87, s.1), (89, s.2.1), (95, .slice (some ⟨s.2.2, 0, none⟩) 1 1)]) (fun s w' => Kd.N kE8 48 w' wr.heap.size (okS P w) s.2.1 M ∧ Kd.F kE8 w' (fun k => k = s.2.2) (some ⟨s.2.2, 0, none⟩) 1 [(⟨1, r, []⟩ : S48)] ∧ some s.2.2 ≠ s.2.1.ownBlock ∧ s.2.2 < w'.heap.size ∧ wr.heap.size ≤ s.2.2 ∧ Below wr.heap.size wr w') ?_ ?_
        rotate_left
        · intro hCont
          refine two_ (i := 0) (j := 8) (Ni := some 87) (Nj := some 95) #[true, true, false, true, true, true, true, true, false, false, false] #[false, true, false, true, true, true, true, true, true, false, false] rfl rfl rfl rfl (by kernel_rfl) (by decide) (by decide) (fun K hK => ?_) (fun K hK => ?_)
          · skip
            refine value_ (w1 := ?_) (v := ?_) (by rfl) rfl ?_ ?_
            rotate_left 2
            · go_simp
              constructor
              · rfl
              · rfl
            skip
            refine hK.out _ _ ((cell_kept hcell (Kept.of_below (show Below wr.heap.size wr (wr.drew.alloc (.cells #[] 48)) from (below_alloc (below_drew (Below.refl _ _)) (.cells #[] 48))) (fun _ => False)) id)) (fun hHeld => ?_)
            clear hK K
            refine norm_ (a' := ?_) ?_ ?_
            rotate_left
            · show Act.put _ (some 87) _ = _
              simp only [Act.put, List.setIfInBounds_toArray, List.set_cons_zero, List.set_cons_succ, i64_w, i32_w]
              rfl
            refine two_ (i := 2) (j := 8) (Ni := some 89) (Nj := some 95) #[true, true, true, true, true, true, true, true, false, false, false] #[true, true, false, true, true, true, true, true, true, false, false] rfl rfl rfl rfl (by kernel_rfl) (by decide) (by decide) (fun K hK => ?_) (fun K hK => ?_)
            · skip
              refine Kd.N_append_rows_step kE8 (w0 := wr) wr.heap.size (by rfl) (.tmp 87) (.tmp 88) 32 48 _ 40 (by rfl) Try.underlying32 infoE8 rfl (by decide) (by omega) (.slice (some ⟨wr.heap.size, 0, none⟩) 0 0) [] M Ao' _ co' (okS P w) (fun k => okS P w k ∧ k < wr.heap.size) (by rfl) (by rfl) (emptyE' wr.drew wr.heap.size wr.heap.size _ (Nat.le_refl _) rfl (okS_new (by have := HSZ; omega))) (Kd.F_below (Kd.F_bound HR.out.ro.F.1) (show Below wr.heap.size wr (wr.drew.alloc (.cells #[] 48)) from (below_alloc (below_drew (Below.refl _ _)) (.cells #[] 48)))) (fun k hk => ⟨hk.1, fun h => by have := hk.2; simp [Value.ownBlock] at h; omega⟩) (fun k hk => okS_new (by have h2 := Nat.le_trans ((show Below wr.heap.size wr (wr.drew.alloc (.cells #[] 48)) from (below_alloc (below_drew (Below.refl _ _)) (.cells #[] 48)))).size hk; have := HSZ; omega)) (show Below wr.heap.size wr (wr.drew.alloc (.cells #[] 48)) from (below_alloc (below_drew (Below.refl _ _)) (.cells #[] 48))) (show Below wr.heap.size wr (wr.drew.alloc (.cells #[] 48)) from (below_alloc (below_drew (Below.refl _ _)) (.cells #[] 48))).size (by simp; have := HLL1.out; omega) ?_
              intro v4 w4 ho hb hg hat
              rw [List.nil_append] at ho
              have HN4 := Aside0.mk ho
              have HB4 := Aside0.mk hb
              clear ho hb hg hat
              refine hK.out _ _ ((cell_kept hcell (Kept.of_below HB4.out (fun _ => False)) id)) (fun hHeld => ?_)
              clear hK K
              refine norm_ (a' := ?_) ?_ ?_
              rotate_left
              · show Act.put _ (some 89) _ = _
                simp only [Act.put, List.setIfInBounds_toArray, List.set_cons_zero, List.set_cons_succ, i64_w, i32_w]
                rfl
              refine one_ (i := 8) (N := some 95) #[true, true, true, true, true, true, true, true, true, false, false] rfl rfl (by kernel_rfl) (by decide) (fun K hK => ?_)
              refine value_ (w1 := ?_) (v := ?_) (by rfl) rfl ?_ ?_
              rotate_left 2
              · go_simp
                constructor
                · rfl
                · rfl
              skip
              refine hK.out _ _ ((cell_kept hcell (Kept.of_below (below_alloc HB4.out (.cells #[.int .i64 1, .int .i64 r, .slice none 0 0] 48)) (fun _ => False)) id)) (fun hHeld => ?_)
              clear hK K
              refine norm_ (a' := ?_) ?_ ?_
              rotate_left
              · show Act.put _ (some 95) _ = _
                simp only [Act.put, List.setIfInBounds_toArray, List.set_cons_zero, List.set_cons_succ, i64_w, i32_w]
                rfl
              exact norm_ (by simp only [putAll, Act.put, List.setIfInBounds_toArray, List.set_cons_zero, List.set_cons_succ]) (hCont ((.slice (some ⟨wr.heap.size, 0, none⟩) 0 0), v4, w4.heap.size) _ ⟨Kd.N_alloc HN4.out _, evNil8 w4 1 r, fun h => Nat.lt_irrefl _ (Kd.N_lt HN4.out _ h.symm), by rw [alloc_size1]; exact Nat.lt_succ_self _, HB4.out.size, below_alloc HB4.out _⟩)
            · skip
              refine value_ (w1 := ?_) (v := ?_) (by rfl) rfl ?_ ?_
              rotate_left 2
              · go_simp
                constructor
                · rfl
                · rfl
              skip
              refine hK.out _ _ ((cell_kept hcell (Kept.of_below (show Below wr.heap.size wr ((wr.drew.alloc (.cells #[] 48)).alloc (.cells #[.int .i64 1, .int .i64 r, .slice none 0 0] 48)) from (below_alloc (below_alloc (below_drew (Below.refl _ _)) (.cells #[] 48)) (.cells #[.int .i64 1, .int .i64 r, .slice none 0 0] 48))) (fun _ => False)) id)) (fun hHeld => ?_)
              clear hK K
              refine norm_ (a' := ?_) ?_ ?_
              rotate_left
              · show Act.put _ (some 95) _ = _
                simp only [Act.put, List.setIfInBounds_toArray, List.set_cons_zero, List.set_cons_succ, i64_w, i32_w]
                rfl
              refine one_ (i := 2) (N := some 89) #[true, true, true, true, true, true, true, true, true, false, false] rfl rfl (by kernel_rfl) (by decide) (fun K hK => ?_)
              refine Kd.N_append_rows_step kE8 (w0 := wr) wr.heap.size (by rfl) (.tmp 87) (.tmp 88) 32 48 _ 40 (by rfl) Try.underlying32 infoE8 rfl (by decide) (by omega) (.slice (some ⟨wr.heap.size, 0, none⟩) 0 0) [] M Ao' _ co' (okS P w) (fun k => okS P w k ∧ k < wr.heap.size) (by rfl) (by rfl) (Kd.N_alloc (emptyE' wr.drew wr.heap.size wr.heap.size _ (Nat.le_refl _) rfl (okS_new (by have := HSZ; omega))) (.cells #[.int .i64 1, .int .i64 r, .slice none 0 0] 48)) (Kd.F_below (Kd.F_bound HR.out.ro.F.1) (show Below wr.heap.size wr ((wr.drew.alloc (.cells #[] 48)).alloc (.cells #[.int .i64 1, .int .i64 r, .slice none 0 0] 48)) from (below_alloc (below_alloc (below_drew (Below.refl _ _)) (.cells #[] 48)) (.cells #[.int .i64 1, .int .i64 r, .slice none 0 0] 48)))) (fun k hk => ⟨hk.1, fun h => by have := hk.2; simp [Value.ownBlock] at h; omega⟩) (fun k hk => okS_new (by have h2 := Nat.le_trans ((show Below wr.heap.size wr ((wr.drew.alloc (.cells #[] 48)).alloc (.cells #[.int .i64 1, .int .i64 r, .slice none 0 0] 48)) from (below_alloc (below_alloc (below_drew (Below.refl _ _)) (.cells #[] 48)) (.cells #[.int .i64 1, .int .i64 r, .slice none 0 0] 48)))).size hk; have := HSZ; omega)) (show Below wr.heap.size wr ((wr.drew.alloc (.cells #[] 48)).alloc (.cells #[.int .i64 1, .int .i64 r, .slice none 0 0] 48)) from (below_alloc (below_alloc (below_drew (Below.refl _ _)) (.cells #[] 48)) (.cells #[.int .i64 1, .int .i64 r, .slice none 0 0] 48))) (show Below wr.heap.size wr ((wr.drew.alloc (.cells #[] 48)).alloc (.cells #[.int .i64 1, .int .i64 r, .slice none 0 0] 48)) from (below_alloc (below_alloc (below_drew (Below.refl _ _)) (.cells #[] 48)) (.cells #[.int .i64 1, .int .i64 r, .slice none 0 0] 48))).size (by simp; have := HLL1.out; omega) ?_
              intro v4 w4 ho hb hg hat
              rw [List.nil_append] at ho
              have HN4 := Aside0.mk ho
              have HB4 := Aside0.mk hb
              have HF4 := Aside0.mk (fork_end (evNil8' (wr.drew.alloc (.cells #[] 48)) 1 r (wr.heap.size + 1) (drew_size _ _).symm) (by rw [alloc_size1, drew_size]; omega) (by simp [Value.ownBlock]) hg hat)
              have HS4 := Aside0.mk hg.size
              clear ho hb hg hat
              refine hK.out _ _ ((cell_kept hcell (Kept.of_below HB4.out (fun _ => False)) id)) (fun hHeld => ?_)
              clear hK K
              refine norm_ (a' := ?_) ?_ ?_
              rotate_left
              · show Act.put _ (some 89) _ = _
                simp only [Act.put, List.setIfInBounds_toArray, List.set_cons_zero, List.set_cons_succ, i64_w, i32_w]
                rfl
              exact norm_ (by simp only [putAll, Act.put, List.setIfInBounds_toArray, List.set_cons_zero, List.set_cons_succ]) (hCont ((.slice (some ⟨wr.heap.size, 0, none⟩) 0 0), v4, wr.heap.size + 1) _ ⟨HN4.out, HF4.out.1, HF4.out.2, by have := HS4.out; rw [size2] at this; exact Nat.lt_of_lt_of_le (Nat.lt_succ_self _) this, Nat.le_succ _, HB4.out⟩)
          · skip
            refine value_ (w1 := ?_) (v := ?_) (by rfl) rfl ?_ ?_
            rotate_left 2
            · go_simp
              constructor
              · rfl
              · rfl
            skip
            refine hK.out _ _ ((cell_kept hcell (Kept.of_below (show Below wr.heap.size wr (wr.drew.alloc (.cells #[.int .i64 1, .int .i64 r, .slice none 0 0] 48)) from (below_alloc (below_drew (Below.refl _ _)) (.cells #[.int .i64 1, .int .i64 r, .slice none 0 0] 48))) (fun _ => False)) id)) (fun hHeld => ?_)
            clear hK K
            refine norm_ (a' := ?_) ?_ ?_
            rotate_left
            · show Act.put _ (some 95) _ = _
              simp only [Act.put, List.setIfInBounds_toArray, List.set_cons_zero, List.set_cons_succ, i64_w, i32_w]
              rfl
            refine one_ (i := 0) (N := some 87) #[true, true, false, true, true, true, true, true, true, false, false] rfl rfl (by kernel_rfl) (by decide) (fun K hK => ?_)
            refine value_ (w1 := ?_) (v := ?_) (by rfl) rfl ?_ ?_
            rotate_left 2
            · go_simp
              constructor
              · rfl
              · rfl
            skip
            refine hK.out _ _ ((cell_kept hcell (Kept.of_below (show Below wr.heap.size wr ((wr.drew.alloc (.cells #[.int .i64 1, .int .i64 r, .slice none 0 0] 48)).alloc (.cells #[] 48)) from (below_alloc (below_alloc (below_drew (Below.refl _ _)) (.cells #[.int .i64 1, .int .i64 r, .slice none 0 0] 48)) (.cells #[] 48))) (fun _ => False)) id)) (fun hHeld => ?_)
            clear hK K
            refine norm_ (a' := ?_) ?_ ?_
            rotate_left
            · show Act.put _ (some 87) _ = _
              simp only [Act.put, List.setIfInBounds_toArray, List.set_cons_zero, List.set_cons_succ, i64_w, i32_w]
              rfl
            refine one_ (i := 2) (N := some 89) #[true, true, true, true, true, true, true, true, true, false, false] rfl rfl (by kernel_rfl) (by decide) (fun K hK => ?_)
            refine Kd.N_append_rows_step kE8 (w0 := wr) wr.heap.size (by rfl) (.tmp 87) (.tmp 88) 32 48 _ 40 (by rfl) Try.underlying32 infoE8 rfl (by decide) (by omega) (.slice (some ⟨wr.heap.size + 1, 0, none⟩) 0 0) [] M Ao' _ co' (okS P w) (fun k => okS P w k ∧ k < wr.heap.size) (by rfl) (by rfl) (emptyE' (wr.drew.alloc (.cells #[.int .i64 1, .int .i64 r, .slice none 0 0] 48)) wr.heap.size (wr.heap.size + 1) _ (by rw [drew_size]; omega) (drew_size _ _).symm (okS_new (by have := HSZ; omega))) (Kd.F_below (Kd.F_bound HR.out.ro.F.1) (show Below wr.heap.size wr ((wr.drew.alloc (.cells #[.int .i64 1, .int .i64 r, .slice none 0 0] 48)).alloc (.cells #[] 48)) from (below_alloc (below_alloc (below_drew (Below.refl _ _)) (.cells #[.int .i64 1, .int .i64 r, .slice none 0 0] 48)) (.cells #[] 48)))) (fun k hk => ⟨hk.1, fun h => by have := hk.2; simp [Value.ownBlock] at h; omega⟩) (fun k hk => okS_new (by have h2 := Nat.le_trans ((show Below wr.heap.size wr ((wr.drew.alloc (.cells #[.int .i64 1, .int .i64 r, .slice none 0 0] 48)).alloc (.cells #[] 48)) from (below_alloc (below_alloc (below_drew (Below.refl _ _)) (.cells #[.int .i64 1, .int .i64 r, .slice none 0 0] 48)) (.cells #[] 48)))).size hk; have := HSZ; omega)) (show Below wr.heap.size wr ((wr.drew.alloc (.cells #[.int .i64 1, .int .i64 r, .slice none 0 0] 48)).alloc (.cells #[] 48)) from (below_alloc (below_alloc (below_drew (Below.refl _ _)) (.cells #[.int .i64 1, .int .i64 r, .slice none 0 0] 48)) (.cells #[] 48))) (show Below wr.heap.size wr ((wr.drew.alloc (.cells #[.int .i64 1, .int .i64 r, .slice none 0 0] 48)).alloc (.cells #[] 48)) from (below_alloc (below_alloc (below_drew (Below.refl _ _)) (.cells #[.int .i64 1, .int .i64 r, .slice none 0 0] 48)) (.cells #[] 48))).size (by simp; have := HLL1.out; omega) ?_
            intro v4 w4 ho hb hg hat
            rw [List.nil_append] at ho
            have HN4 := Aside0.mk ho
            have HB4 := Aside0.mk hb
            have HF4 := Aside0.mk (fork_end (Kd.F_alloc (evNil8' wr.drew 1 r wr.heap.size rfl) (.cells #[] 48)) (by rw [alloc_size1, drew_size]; omega) (by simp [Value.ownBlock]) hg hat)
            have HS4 := Aside0.mk hg.size
            clear ho hb hg hat
            refine hK.out _ _ ((cell_kept hcell (Kept.of_below HB4.out (fun _ => False)) id)) (fun hHeld => ?_)
            clear hK K
            refine norm_ (a' := ?_) ?_ ?_
            rotate_left
            · show Act.put _ (some 89) _ = _
              simp only [Act.put, List.setIfInBounds_toArray, List.set_cons_zero, List.set_cons_succ, i64_w, i32_w]
              rfl
            exact norm_ (by simp only [putAll, Act.put, List.setIfInBounds_toArray, List.set_cons_zero, List.set_cons_succ]) (hCont ((.slice (some ⟨wr.heap.size + 1, 0, none⟩) 0 0), v4, wr.heap.size) _ ⟨HN4.out, HF4.out.1, HF4.out.2, by have := HS4.out; rw [size2] at this; exact Nat.lt_of_lt_of_le (Nat.lt_succ_of_lt (Nat.lt_succ_self _)) this, Nat.le_refl _, HB4.out⟩)
        rintro ⟨vE, v5, g5⟩ w5 ⟨hN5, hF5, hne5, hlt5, hge5, hb5⟩
        dsimp only at hN5 hF5 hne5 hlt5 hge5
        have hHeld := (cell_kept hcell (Kept.of_below hb5 (fun _ => False)) id)
        have HN5 := Aside0.mk hN5
        have HF5 := Aside0.mk (And.intro hF5 (And.intro hne5 (And.intro hlt5 (And.intro hge5 hb5))))
        clear hN5 hF5 hne5 hlt5 hge5 hb5
        refine norm_ (a' := ?_) ?_ ?_
        rotate_left
        · simp only [putAll, Act.put, List.setIfInBounds_toArray, List.set_cons_zero, List.set_cons_succ]
          rfl
        refine one_ (i := 9) (N := some 96) #[true, true, true, true, true, true, true, true, true, true, false] rfl rfl (by kernel_rfl) (by decide) (fun K hK => ?_)
        refine Kd.N_append_rows_step kE8 (w0 := wr) wr.heap.size (by rfl) (.tmp 89) (.tmp 95) 32 48 _ 40 (by rfl) Try.underlying32 infoE8 rfl (by decide) (by omega) v5 M [(⟨1, r, []⟩ : S48)] (some ⟨g5, 0, none⟩) 1 1 (okS P w) _ (by rfl) (by rfl) HN5.out HF5.out.1 (fun k hk => ⟨okS_new (by have := HSZ; have := HF5.out.2.2.2.1; omega), by rw [hk]; exact HF5.out.2.1⟩) (fun k hk => okS_new (by have h2 := Nat.le_trans HF5.out.2.2.2.2.size hk; have := HSZ; omega)) HF5.out.2.2.2.2 HF5.out.2.2.2.2.size (by have := HLL1.out; omega) ?_
        intro v6 w6 ho hb hg hat
        rw [HM2.out] at ho
        have HB6 := Aside0.mk hb
        have H6 := Aside0.mk ((HR.out.below hb).out (RD.ofN ho))
        have HO6 := Aside0.mk ho
        clear ho hb hg hat
        refine hK.out _ _ ((cell_kept hcell (Kept.of_below (show Below wr.heap.size wr w6 from HB6.out) (fun _ => False)) id)) (fun hHeld => ?_)
        clear hK K
        refine norm_ (a' := ?_) ?_ ?_
        rotate_left
        · show Act.put _ (some 96) _ = _
          simp only [Act.put, List.setIfInBounds_toArray, List.set_cons_zero, List.set_cons_succ, i64_w, i32_w]
          rfl
        refine pure_ (i := 10) (N := some 1) (v := ?_) (a' := ?_) #[true, true, true, true, true, true, true, true, true, true, true] rfl rfl (by kernel_rfl) (fun _ _ _ h => h) (Or.inl ⟨by rfl, ?_⟩) ?_ ?_
        rotate_left
        · intro w'
          go_simp
          with_reducible rfl
        rotate_left
        · simp only [Act.put, List.setIfInBounds_toArray, List.set_cons_zero, List.set_cons_succ, i64_w, i32_w]
          rfl
        refine done_ (by kernel_rfl) ?_
        obtain ⟨A6, c6, rfl⟩ := Kd.N_slice HO6.out
        go_wp2
        go_roundg (gk - 1)
        case measure => have := HK.out; omega
        case rel => exact ⟨i + 1, A6, c6, M2, by go_num, rfl, ⟨by have := HK.out; omega, by omega⟩, HTK, H6, ⟨HD.out.1.below HB6.out, HD.out.2.below HB6.out⟩⟩
      · have hT1 : decide ((i : Int) < (sc.length : Int)) = false := decide_eq_false (by omega)
        have hie : i = sc.length := by have := HK.out; omega
        have HME := Aside0.mk (show L ++ (prV sc).map ev48 = M by rw [HM'.out, hie, List.take_of_length_le (Nat.le_refl _)])
        go_wp2_with (first | ((with_reducible refine gate_ (.store 31 (.tmp 6) (.tmp 100)) rfl ?_); go_must (refine step_put (.tmp 6) (.tmp 100) rfl rfl rfl 0 _ _ rfl rfl HR.out.b6 rfl rfl rfl ?_); intro w7 hw; have HA := Aside0.mk (HR.out.ans 0 HR.out.rn HD.out.2); rw [← hw] at HA; clear hw))
        all_goals refine bodyPost_ret (results_ct rfl _ _ (w.heap.size + 1) 31 _ (0, 0) _ rfl HA.out.1 Try.underlying31 rfl rfl) (by rfl) ?_
        all_goals rw [HME.out]
        all_goals exact HA.out.2
  · have T128 : decide (x ≥ 128) = false := decide_eq_false c128
    obtain rfl : st = 0 := cB.resolve_left c128
    go_enter Try.func20, Try.ntmps20
    go_wp2_with (first | (((with_reducible refine gate_builtin (b := .append) (xs := #[.tmp 71, .tmp 73]) rfl ?_); at_builtin; (first | (refine unguard (by rfl) ?_; dsimp only) | skip); refine Kd.R_append_rows (Kd.int .u8) (w0 := ((w.alloc (.cells #[.int .i64 0, .slice An n.length cn, .slice Ah h.length ch] 31)).alloc (.cells #[.int .i64 0, .slice none 0 0, .slice none 0 0] 31))) ((w.alloc (.cells #[.int .i64 0, .slice An n.length cn, .slice Ah h.length ch] 31)).alloc (.cells #[.int .i64 0, .slice none 0 0, .slice none 0 0] 31)).heap.size rfl (.tmp 71) (.tmp 73) 29 5 (.int .u8 0) 1 rfl Try.underlying29 info5 rfl (by decide) (by omega) _ ([] : List Int) h _ _ _ (fun _ => True) (fun _ => False) rfl rfl ?aO ?aR (fun _ _ h => h) (fun _ h => h.elim) (fun _ _ => trivial) ?aB ?aS ?aL ?_; go_must (case aO => exact (R_lit_at .u8 (W := ((w.alloc (.cells #[.int .i64 0, .slice An n.length cn, .slice Ah h.length ch] 31)).alloc (.cells #[.int .i64 0, .slice none 0 0, .slice none 0 0] 31))) ((w.alloc (.cells #[.int .i64 0, .slice An n.length cn, .slice Ah h.length ch] 31)).alloc (.cells #[.int .i64 0, .slice none 0 0, .slice none 0 0] 31)).heap.size 5 _ [] (by rw [alloc_size1, alloc_size1]) (Nat.le_refl _) (by simp))); go_must (case aR => exact (Kd.C_below (Kd.F_now HQ.out.rh.F.1) (below_alloc (Below.refl _ _) _))); go_must (case aB => exact (below_alloc (Below.refl _ _) _)); go_must (case aS => exact (Below.size (below_alloc (Below.refl _ _) _))); go_must (case aL => (have h3 := HP.out.l3; show (0 + h.length) * 1 ≤ _; have h4 : h.length ≤ 3 := h3; omega)); intro vP1 wP1 ho hb hg hat; (try simp only [List.nil_append] at ho); have P1 := Aside0.mk (And.intro ho hb); clear ho hb hg hat); obtain ⟨A1, c1, rfl⟩ := Kd.R_slice P1.out.1) | (((with_reducible refine gate_builtin (b := .append) (xs := #[.tmp 74, .tmp 76]) rfl ?_); at_builtin; (first | (refine unguard (by rfl) ?_; dsimp only) | skip); refine Kd.R_append_rows (Kd.int .u8) (w0 := ((w.alloc (.cells #[.int .i64 0, .slice An n.length cn, .slice Ah h.length ch] 31)).alloc (.cells #[.int .i64 0, .slice none 0 0, .slice none 0 0] 31))) ((w.alloc (.cells #[.int .i64 0, .slice An n.length cn, .slice Ah h.length ch] 31)).alloc (.cells #[.int .i64 0, .slice none 0 0, .slice none 0 0] 31)).heap.size rfl (.tmp 74) (.tmp 76) 29 5 (.int .u8 0) 1 rfl Try.underlying29 info5 rfl (by decide) (by omega) _ h [x] _ _ _ (fun _ => True) (fun _ => False) rfl rfl ?aO ?aR (fun _ _ h => h) (fun _ h => h.elim) (fun _ _ => trivial) ?aB ?aS ?aL ?_; go_must (case aO => exact (Kd.R_alloc P1.out.1 _)); go_must (case aR => exact (Kd.R_reads' (R_lit_at .u8 (W := wP1) 0 5 _ [x] (by simp) (by simp) (by simp))).2.2); go_must (case aB => exact (below_alloc P1.out.2 _)); go_must (case aS => exact (Below.size (below_alloc P1.out.2 _))); go_must (case aL => (have h3 := HP.out.l3; have h4 : h.length ≤ 3 := h3; show (h.length + 1) * 1 ≤ _; omega)); intro vP2 wP2 ho hb hg hat; (try simp only [List.nil_append] at ho); have P2 := Aside0.mk (And.intro ho hb); clear ho hb hg hat); have q := P2.out.1; rw [HHX.out] at q; have P3 := Aside0.mk q; obtain ⟨A2, c2, rfl⟩ := Kd.R_slice q; clear q) | (go_at_call 32; go_must (refine (RQ_cut wP2 A2 c2 HX _ (RD.ofR P3.out).F.1 (RD.ofR P3.out).F.2 HCU.out.2.1 HCU.out.2.2 HCU.out.1).mono ?_); rintro e w3 ⟨A3, c3, A4, c4, rfl, hD3, hD4, hb3⟩; have H3 := Aside0.mk (HQ.out.below (below_then P2.out.2 P2.out.2.size hb3)); have D3 := Aside0.mk (And.intro (hD3.mono (ok' := okS P w) (fun k hk => okS_new (by have := HQ.out.sz; have := P2.out.2.size; rcases hk with hk | hk <;> omega))) (hD4.mono (ok' := okS P w) (fun k hk => okS_new (by have := HQ.out.sz; have := P2.out.2.size; rcases hk with hk | hk <;> omega)))); clear hD3 hD4 hb3))
    go_loopg [1, 10] (sc.length + 1) (fun kq v1 v10 w' => ∃ (i : Nat) (Ao' : Option Addr) (co' : Nat) (M : List S48), v10 = .int .i64 i ∧ v1 = .slice Ao' M.length co' ∧ Aside0 (kq + i = sc.length + 1 ∧ i ≤ sc.length) ∧ Aside0 (M = L ++ (prV (sc.take i)).map ev48) ∧ Aside0 (RQ P w w' 0 n h (.slice An n.length cn) (.slice Ah h.length ch) (.slice Ao' M.length co') M) ∧ Aside0 (RD (Kd.int .i64) w' (okS P w) (.slice A3 sc.length c3) sc ∧ RD (Kd.int .u8) w' (okS P w) (.slice A4 hl0.length c4) hl0))
    case atStart => exact ⟨0, Ao, co, L, rfl, rfl, ⟨by omega, by omega⟩, ⟨by simp [prV]⟩, H3, D3⟩
    case round =>
      obtain ⟨i, Ao', co', M, rfl, rfl, HK, HM', HR, HD⟩ := hrel
      have hscl : sc.length ≤ 4 := HCL.out
      have HLL1 := Aside0.mk (show M.length ≤ 200000 by rw [HM'.out, List.length_append, List.length_map, prV, List.length_map, List.length_take]; omega)
      have HSZ := HR.out.sz
      obtain ⟨hc0, hc1, hc2, hf0, hf1, hf2⟩ := HR.out.cells
      by_cases hi : i < sc.length
      · have hT1 : decide ((i : Int) < (sc.length : Int)) = true := decide_eq_true (by omega)
        obtain ⟨ad, hA3, hcell⟩ := Kd.at_int (Kd.F_now HD.out.1.F.1) (i : Int) (by omega) (by omega)
        subst hA3
        rw [Int.toNat_natCast] at hcell
        have htk := take_rd hi
        obtain ⟨r, hr⟩ : ∃ r, rd sc (i : Int) = r := ⟨_, rfl⟩
        rw [hr] at hcell htk
        obtain ⟨M2, hM2⟩ : ∃ M2, M ++ [(⟨1, r, []⟩ : S48)] = M2 := ⟨_, rfl⟩
        have HM2 := Aside0.mk hM2
        have HTK := Aside0.mk (show M2 = L ++ (prV (sc.take (i + 1))).map ev48 by rw [← hM2, HM'.out, htk]; simp [prV, ev48])
        clear hr htk hM2
        go_wp2
        refine start_ (n := 11) (S := fun w' => w'.cell? (ad.add i) = some (.int .i64 r)) (ds := []) #[false, false, false, false, false, false, false, false, false, false, false] (by kernel_rfl) rfl rfl (hcell) (fun hHeld => ?_)
        refine pure_ (i := 1) (N := some 88) (v := ?_) (a' := ?_) #[false, true, false, false, false, false, false, false, false, false, false] rfl rfl (by kernel_rfl) (fun _ _ _ h => h) (Or.inl ⟨by rfl, ?_⟩) ?_ ?_
        rotate_left
        · intro w'
          go_simp
          with_reducible rfl
        rotate_left
        · simp only [Act.put, List.setIfInBounds_toArray, List.set_cons_zero, List.set_cons_succ, i64_w, i32_w]
          rfl
        refine pure_ (i := 3) (N := some 90) (v := ?_) (a' := ?_) #[false, true, false, true, false, false, false, false, false, false, false] rfl rfl (by kernel_rfl) (fun _ _ _ h => h) (Or.inl ⟨by rfl, ?_⟩) ?_ ?_
        rotate_left
        · intro w'
          go_simp
          with_reducible rfl
        rotate_left
        · simp only [Act.put, List.setIfInBounds_toArray, List.set_cons_zero, List.set_cons_succ, i64_w, i32_w]
          rfl
        refine pure_ (i := 4) (N := some 91) (v := ?_) (a' := ?_) #[false, true, false, true, true, false, false, false, false, false, false] rfl rfl (by kernel_rfl) (fun _ _ _ h => h) (Or.inl ⟨by rfl, ?_⟩) ?_ ?_
        rotate_left
        · intro w'
          go_simp
          with_reducible rfl
        rotate_left
        · simp only [Act.put, List.setIfInBounds_toArray, List.set_cons_zero, List.set_cons_succ, i64_w, i32_w]
          rfl
        refine pure_ (i := 5) (N := some 92) (v := ?_) (a' := ?_) #[false, true, false, true, true, true, false, false, false, false, false] rfl rfl (by kernel_rfl) (fun _ _ _ h => h) (Or.inl ⟨by rfl, ?_⟩) ?_ ?_
        rotate_left
        · intro w'
          go_simp
          with_reducible rfl
        rotate_left
        · simp only [Act.put, List.setIfInBounds_toArray, List.set_cons_zero, List.set_cons_succ, i64_w, i32_w]
          rfl
        refine take_ (i := 6) (N := some 93) (v := ?_) (a' := ?_) #[false, true, false, true, true, true, true, false, false, false, false] rfl rfl (by kernel_rfl) (fun _ _ _ h => h) (Or.inl ⟨by rfl, ?_⟩) hHeld ?_ ?_
        rotate_left
        · intro w' s0
          go_simp
          with_reducible rfl
        rotate_left
        · simp only [Act.put, List.setIfInBounds_toArray, List.set_cons_zero, List.set_cons_succ, i64_w, i32_w]
          rfl
        refine pure_ (i := 7) (N := some 94) (v := ?_) (a' := ?_) #[false, true, false, true, true, true, true, true, false, false, false] rfl rfl (by kernel_rfl) (fun _ _ _ h => h) (Or.inl ⟨by rfl, ?_⟩) ?_ ?_
        rotate_left
        · intro w'
          go_simp
          with_reducible rfl
        rotate_left
        · simp only [Act.put, List.setIfInBounds_toArray, List.set_cons_zero, List.set_cons_succ, i64_w, i32_w]
          rfl
        refine join_ (σ := Value × Value × Nat) 2 #[true, true, true, true, true, true, true, true, true, false, false] (fun s => [(87, s.1), (89, s.2.1), (95, .slice (some ⟨s.2.2, 0, none⟩) 1 1)]) (fun s w' => Kd.N kE8 48 w' wr.heap.size (okS P w) s.2.1 M ∧ Kd.F kE8 w' (fun k => k = s.2.2) (some ⟨s.2.2, 0, none⟩) 1 [(⟨1, r, []⟩ : S48)] ∧ some s.2.2 ≠ s.2.1.ownBlock ∧ s.2.2 < w'.heap.size ∧ wr.heap.size ≤ s.2.2 ∧ Below wr.heap.size wr w') ?_ ?_
        rotate_left
        · intro hCont
          refine two_ (i := 0) (j := 8) (Ni := some 87) (Nj := some 95) #[true, true, false, true, true, true, true, true, false, false, false] #[false, true, false, true, true, true, true, true, true, false, false] rfl rfl rfl rfl (by kernel_rfl) (by decide) (by decide) (fun K hK => ?_) (fun K hK => ?_)
          · skip
            refine value_ (w1 := ?_) (v := ?_) (by rfl) rfl ?_ ?_
            rotate_left 2
            · go_simp
              constructor
              · rfl
              · rfl
            skip
            refine hK.out _ _ ((cell_kept hcell (Kept.of_below (show Below wr.heap.size wr (wr.drew.alloc (.cells #[] 48)) from (below_alloc (below_drew (Below.refl _ _)) (.cells #[] 48))) (fun _ => False)) id)) (fun hHeld => ?_)
            clear hK K
            refine norm_ (a' := ?_) ?_ ?_
            rotate_left
            · show Act.put _ (some 87) _ = _
              simp only [Act.put, List.setIfInBounds_toArray, List.set_cons_zero, List.set_cons_succ, i64_w, i32_w]
              rfl
            refine two_ (i := 2) (j := 8) (Ni := some 89) (Nj := some 95) #[true, true, true, true, true, true, true, true, false, false, false] #[true, true, false, true, true, true, true, true, true, false, false] rfl rfl rfl rfl (by kernel_rfl) (by decide) (by decide) (fun K hK => ?_) (fun K hK => ?_)
            · skip
              refine Kd.N_append_rows_step kE8 (w0 := wr) wr.heap.size (by rfl) (.tmp 87) (.tmp 88) 32 48 _ 40 (by rfl) Try.underlying32 infoE8 rfl (by decide) (by omega) (.slice (some ⟨wr.heap.size, 0, none⟩) 0 0) [] M Ao' _ co' (okS P w) (fun k => okS P w k ∧ k < wr.heap.size) (by rfl) (by rfl) (emptyE' wr.drew wr.heap.size wr.heap.size _ (Nat.le_refl _) rfl (okS_new (by have := HSZ; omega))) (Kd.F_below (Kd.F_bound HR.out.ro.F.1) (show Below wr.heap.size wr (wr.drew.alloc (.cells #[] 48)) from (below_alloc (below_drew (Below.refl _ _)) (.cells #[] 48)))) (fun k hk => ⟨hk.1, fun h => by have := hk.2; simp [Value.ownBlock] at h; omega⟩) (fun k hk => okS_new (by have h2 := Nat.le_trans ((show Below wr.heap.size wr (wr.drew.alloc (.cells #[] 48)) from (below_alloc (below_drew (Below.refl _ _)) (.cells #[] 48)))).size hk; have := HSZ; omega)) (show Below wr.heap.size wr (wr.drew.alloc (.cells #[] 48)) from (below_alloc (below_drew (Below.refl _ _)) (.cells #[] 48))) (show Below wr.heap.size wr (wr.drew.alloc (.cells #[] 48)) from (below_alloc (below_drew (Below.refl _ _)) (.cells #[] 48))).size (by simp; have := HLL1.out; omega) ?_
              intro v4 w4 ho hb hg hat
              rw [List.nil_append] at ho
              have HN4 := Aside0.mk ho
              have HB4 := Aside0.mk hb
              clear ho hb hg hat
              refine hK.out _ _ ((cell_kept hcell (Kept.of_below HB4.out (fun _ => False)) id)) (fun hHeld => ?_)
              clear hK K
              refine norm_ (a' := ?_) ?_ ?_
              rotate_left
              · show Act.put _ (some 89) _ = _
                simp only [Act.put, List.setIfInBounds_toArray, List.set_cons_zero, List.set_cons_succ, i64_w, i32_w]
                rfl
              refine one_ (i := 8) (N := some 95) #[true, true, true, true, true, true, true, true, true, false, false] rfl rfl (by kernel_rfl) (by decide) (fun K hK => ?_)
              refine value_ (w1 := ?_) (v := ?_) (by rfl) rfl ?_ ?_
              rotate_left 2
              · go_simp
                constructor
                · rfl
                · rfl
              skip
              refine hK.out _ _ ((cell_kept hcell (Kept.of_below (below_alloc HB4.out (.cells #[.int .i64 1, .int .i64 r, .slice none 0 0] 48)) (fun _ => False)) id)) (fun hHeld => ?_)
              clear hK K
              refine norm_ (a' := ?_) ?_ ?_
              rotate_left
              · show Act.put _ (some 95) _ = _
                simp only [Act.put, List.setIfInBounds_toArray, List.set_cons_zero, List.set_cons_succ, i64_w, i32_w]
                rfl
              exact norm_ (by simp only [putAll, Act.put, List.setIfInBounds_toArray, List.set_cons_zero, List.set_cons_succ]) (hCont ((.slice (some ⟨wr.heap.size, 0, none⟩) 0 0), v4, w4.heap.size) _ ⟨Kd.N_alloc HN4.out _, evNil8 w4 1 r, fun h => Nat.lt_irrefl _ (Kd.N_lt HN4.out _ h.symm), by rw [alloc_size1]; exact Nat.lt_succ_self _, HB4.out.size, below_alloc HB4.out _⟩)
            · skip
              refine value_ (w1 := ?_) (v := ?_) (by rfl) rfl ?_ ?_
              rotate_left 2
              · go_simp
                constructor
                · rfl
                · rfl
              skip
              refine hK.out _ _ ((cell_kept hcell (Kept.of_below (show Below wr.heap.size wr ((wr.drew.alloc (.cells #[] 48)).alloc (.cells #[.int .i64 1, .int .i64 r, .slice none 0 0] 48)) from (below_alloc (below_alloc (below_drew (Below.refl _ _)) (.cells #[] 48)) (.cells #[.int .i64 1, .int .i64 r, .slice none 0 0] 48))) (fun _ => False)) id)) (fun hHeld => ?_)
              clear hK K
              refine norm_ (a' := ?_) ?_ ?_
              rotate_left
              · show Act.put _ (some 95) _ = _
                simp only [Act.put, List.setIfInBounds_toArray, List.set_cons_zero, List.set_cons_succ, i64_w, i32_w]
                rfl
              refine one_ (i := 2) (N := some 89) #[true, true, true, true, true, true, true, true, true, false, false] rfl rfl (by kernel_rfl) (by decide) (fun K hK => ?_)
              refine Kd.N_append_rows_step kE8 (w0 := wr) wr.heap.size (by rfl) (.tmp 87) (.tmp 88) 32 48 _ 40 (by rfl) Try.underlying32 infoE8 rfl (by decide) (by omega) (.slice (some ⟨wr.heap.size, 0, none⟩) 0 0) [] M Ao' _ co' (okS P w) (fun k => okS P w k ∧ k < wr.heap.size) (by rfl) (by rfl) (Kd.N_alloc (emptyE' wr.drew wr.heap.size wr.heap.size _ (Nat.le_refl _) rfl (okS_new (by have := HSZ; omega))) (.cells #[.int .i64 1, .int .i64 r, .slice none 0 0] 48)) (Kd.F_below (Kd.F_bound HR.out.ro.F.1) (show Below wr.heap.size wr ((wr.drew.alloc (.cells #[] 48)).alloc (.cells #[.int .i64 1, .int .i64 r, .slice none 0 0] 48)) from (below_alloc (below_alloc (below_drew (Below.refl _ _)) (.cells #[] 48)) (.cells #[.int .i64 1, .int .i64 r, .slice none 0 0] 48)))) (fun k hk => ⟨hk.1, fun h => by have := hk.2; simp [Value.ownBlock] at h; omega⟩) (fun k hk => okS_new (by have h2 := Nat.le_trans ((show Below wr.heap.size wr ((wr.drew.alloc (.cells #[] 48)).alloc (.cells #[.int .i64 1, .int .i64 r, .slice none 0 0] 48)) from (below_alloc (below_alloc (below_drew (Below.refl _ _)) (.cells #[] 48)) (.cells #[.int .i64 1, .int .i64 r, .slice none 0 0] 48)))).size hk; have := HSZ; omega)) (show Below wr.heap.size wr ((wr.drew.alloc (.cells #[] 48)).alloc (.cells #[.int .i64 1, .int .i64 r, .slice none 0 0] 48)) from (below_alloc (below_alloc (below_drew (Below.refl _ _)) (.cells #[] 48)) (.cells #[.int .i64 1, .int .i64 r, .slice none 0 0] 48))) (show Below wr.heap.size wr ((wr.drew.alloc (.cells #[] 48)).alloc (.cells #[.int .i64 1, .int .i64 r, .slice none 0 0] 48)) from (below_alloc (below_alloc (below_drew (Below.refl _ _)) (.cells #[] 48)) (.cells #[.int .i64 1, .int .i64 r, .slice none 0 0] 48))).size (by simp; have := HLL1.out; omega) ?_
              intro v4 w4 ho hb hg hat
              rw [List.nil_append] at ho
              have HN4 := Aside0.mk ho
              have HB4 := Aside0.mk hb
              have HF4 := Aside0.mk (fork_end (evNil8' (wr.drew.alloc (.cells #[] 48)) 1 r (wr.heap.size + 1) (drew_size _ _).symm) (by rw [alloc_size1, drew_size]; omega) (by simp [Value.ownBlock]) hg hat)
              have HS4 := Aside0.mk hg.size
              clear ho hb hg hat
              refine hK.out _ _ ((cell_kept hcell (Kept.of_below HB4.out (fun _ => False)) id)) (fun hHeld => ?_)
              clear hK K
              refine norm_ (a' := ?_) ?_ ?_
              rotate_left
              · show Act.put _ (some 89) _ = _
                simp only [Act.put, List.setIfInBounds_toArray, List.set_cons_zero, List.set_cons_succ, i64_w, i32_w]
                rfl
              exact norm_ (by simp only [putAll, Act.put, List.setIfInBounds_toArray, List.set_cons_zero, List.set_cons_succ]) (hCont ((.slice (some ⟨wr.heap.size, 0, none⟩) 0 0), v4, wr.heap.size + 1) _ ⟨HN4.out, HF4.out.1, HF4.out.2, by have := HS4.out; rw [size2] at this; exact Nat.lt_of_lt_of_le (Nat.lt_succ_self _) this, Nat.le_succ _, HB4.out⟩)
          · skip
            refine value_ (w1 := ?_) (v := ?_) (by rfl) rfl ?_ ?_
            rotate_left 2
            · go_simp
              constructor
              · rfl
              · rfl
            skip
            refine hK.out _ _ ((cell_kept hcell (Kept.of_below (show Below wr.heap.size wr (wr.drew.alloc (.cells #[.int .i64 1, .int .i64 r, .slice none 0 0] 48)) from (below_alloc (below_drew (Below.refl _ _)) (.cells #[.int .i64 1, .int .i64 r, .slice none 0 0] 48))) (fun _ => False)) id)) (fun hHeld => ?_)
            clear hK K
            refine norm_ (a' := ?_) ?_ ?_
            rotate_left
            · show Act.put _ (some 95) _ = _
              simp only [Act.put, List.setIfInBounds_toArray, List.set_cons_zero, List.set_cons_succ, i64_w, i32_w]
              rfl
            refine one_ (i := 0) (N := some 87) #[true, true, false, true, true, true, true, true, true, false, false] rfl rfl (by kernel_rfl) (by decide) (fun K hK => ?_)
            refine value_ (w1 := ?_) (v := ?_) (by rfl) rfl ?_ ?_
            rotate_left 2
            · go_simp
              constructor
              · rfl
              · rfl
            skip
            refine hK.out _ _ ((cell_kept hcell (Kept.of_below (show Below wr.heap.size wr ((wr.drew.alloc (.cells #[.int .i64 1, .int .i64 r, .slice none 0 0] 48)).alloc (.cells #[] 48)) from (below_alloc (below_alloc (below_drew (Below.refl _ _)) (.cells #[.int .i64 1, .int .i64 r, .slice none 0 0] 48)) (.cells #[] 48))) (fun _ => False)) id)) (fun hHeld => ?_)
            clear hK K
            refine norm_ (a' := ?_) ?_ ?_
            rotate_left
            · show Act.put _ (some 87) _ = _
              simp only [Act.put, List.setIfInBounds_toArray, List.set_cons_zero, List.set_cons_succ, i64_w, i32_w]
              rfl
            refine one_ (i := 2) (N := some 89) #[true, true, true, true, true, true, true, true, true, false, false] rfl rfl (by kernel_rfl) (by decide) (fun K hK => ?_)
            refine Kd.N_append_rows_step kE8 (w0 := wr) wr.heap.size (by rfl) (.tmp 87) (.tmp 88) 32 48 _ 40 (by rfl) Try.underlying32 infoE8 rfl (by decide) (by omega) (.slice (some ⟨wr.heap.size + 1, 0, none⟩) 0 0) [] M Ao' _ co' (okS P w) (fun k => okS P w k ∧ k < wr.heap.size) (by rfl) (by rfl) (emptyE' (wr.drew.alloc (.cells #[.int .i64 1, .int .i64 r, .slice none 0 0] 48)) wr.heap.size (wr.heap.size + 1) _ (by rw [drew_size]; omega) (drew_size _ _).symm (okS_new (by have := HSZ; omega))) (Kd.F_below (Kd.F_bound HR.out.ro.F.1) (show Below wr.heap.size wr ((wr.drew.alloc (.cells #[.int .i64 1, .int .i64 r, .slice none 0 0] 48)).alloc (.cells #[] 48)) from (below_alloc (below_alloc (below_drew (Below.refl _ _)) (.cells #[.int .i64 1, .int .i64 r, .slice none 0 0] 48)) (.cells #[] 48)))) (fun k hk => ⟨hk.1, fun h => by have := hk.2; simp [Value.ownBlock] at h; omega⟩) (fun k hk => okS_new (by have h2 := Nat.le_trans ((show Below wr.heap.size wr ((wr.drew.alloc (.cells #[.int .i64 1, .int .i64 r, .slice none 0 0] 48)).alloc (.cells #[] 48)) from (below_alloc (below_alloc (below_drew (Below.refl _ _)) (.cells #[.int .i64 1, .int .i64 r, .slice none 0 0] 48)) (.cells #[] 48)))).size hk; have := HSZ; omega)) (show Below wr.heap.size wr ((wr.drew.alloc (.cells #[.int .i64 1, .int .i64 r, .slice none 0 0] 48)).alloc (.cells #[] 48)) from (below_alloc (below_alloc (below_drew (Below.refl _ _)) (.cells #[.int .i64 1, .int .i64 r, .slice none 0 0] 48)) (.cells #[] 48))) (show Below wr.heap.size wr ((wr.drew.alloc (.cells #[.int .i64 1, .int .i64 r, .slice none 0 0] 48)).alloc (.cells #[] 48)) from (below_alloc (below_alloc (below_drew (Below.refl _ _)) (.cells #[.int .i64 1, .int .i64 r, .slice none 0 0] 48)) (.cells #[] 48))).size (by simp; have := HLL1.out; omega) ?_
            intro v4 w4 ho hb hg hat
            rw [List.nil_append] at ho
            have HN4 := Aside0.mk ho
            have HB4 := Aside0.mk hb
            have HF4 := Aside0.mk (fork_end (Kd.F_alloc (evNil8' wr.drew 1 r wr.heap.size rfl) (.cells #[] 48)) (by rw [alloc_size1, drew_size]; omega) (by simp [Value.ownBlock]) hg hat)
            have HS4 := Aside0.mk hg.size
            clear ho hb hg hat
            refine hK.out _ _ ((cell_kept hcell (Kept.of_below HB4.out (fun _ => False)) id)) (fun hHeld => ?_)
            clear hK K
            refine norm_ (a' := ?_) ?_ ?_
            rotate_left
            · show Act.put _ (some 89) _ = _
              simp only [Act.put, List.setIfInBounds_toArray, List.set_cons_zero, List.set_cons_succ, i64_w, i32_w]
              rfl
            exact norm_ (by simp only [putAll, Act.put, List.setIfInBounds_toArray, List.set_cons_zero, List.set_cons_succ]) (hCont ((.slice (some ⟨wr.heap.size + 1, 0, none⟩) 0 0), v4, wr.heap.size) _ ⟨HN4.out, HF4.out.1, HF4.out.2, by have := HS4.out; rw [size2] at this; exact Nat.lt_of_lt_of_le (Nat.lt_succ_of_lt (Nat.lt_succ_self _)) this, Nat.le_refl _, HB4.out⟩)
        rintro ⟨vE, v5, g5⟩ w5 ⟨hN5, hF5, hne5, hlt5, hge5, hb5⟩
        dsimp only at hN5 hF5 hne5 hlt5 hge5
        have hHeld := (cell_kept hcell (Kept.of_below hb5 (fun _ => False)) id)
        have HN5 := Aside0.mk hN5
        have HF5 := Aside0.mk (And.intro hF5 (And.intro hne5 (And.intro hlt5 (And.intro hge5 hb5))))
        clear hN5 hF5 hne5 hlt5 hge5 hb5
        refine norm_ (a' := ?_) ?_ ?_
        rotate_left
        · simp only [putAll, Act.put, List.setIfInBounds_toArray, List.set_cons_zero, List.set_cons_succ]
          rfl
        refine one_ (i := 9) (N := some 96) #[true, true, true, true, true, true, true, true, true, true, false] rfl rfl (by kernel_rfl) (by decide) (fun K hK => ?_)
        refine Kd.N_append_rows_step kE8 (w0 := wr) wr.heap.size (by rfl) (.tmp 89) (.tmp 95) 32 48 _ 40 (by rfl) Try.underlying32 infoE8 rfl (by decide) (by omega) v5 M [(⟨1, r, []⟩ : S48)] (some ⟨g5, 0, none⟩) 1 1 (okS P w) _ (by rfl) (by rfl) HN5.out HF5.out.1 (fun k hk => ⟨okS_new (by have := HSZ; have := HF5.out.2.2.2.1; omega), by rw [hk]; exact HF5.out.2.1⟩) (fun k hk => okS_new (by have h2 := Nat.le_trans HF5.out.2.2.2.2.size hk; have := HSZ; omega)) HF5.out.2.2.2.2 HF5.out.2.2.2.2.size (by have := HLL1.out; omega) ?_
        intro v6 w6 ho hb hg hat
        rw [HM2.out] at ho
        have HB6 := Aside0.mk hb
        have H6 := Aside0.mk ((HR.out.below hb).out (RD.ofN ho))
        have HO6 := Aside0.mk ho
        clear ho hb hg hat
        refine hK.out _ _ ((cell_kept hcell (Kept.of_below (show Below wr.heap.size wr w6 from HB6.out) (fun _ => False)) id)) (fun hHeld => ?_)
        clear hK K
        refine norm_ (a' := ?_) ?_ ?_
        rotate_left
        · show Act.put _ (some 96) _ = _
          simp only [Act.put, List.setIfInBounds_toArray, List.set_cons_zero, List.set_cons_succ, i64_w, i32_w]
          rfl
        refine pure_ (i := 10) (N := some 1) (v := ?_) (a' := ?_) #[true, true, true, true, true, true, true, true, true, true, true] rfl rfl (by kernel_rfl) (fun _ _ _ h => h) (Or.inl ⟨by rfl, ?_⟩) ?_ ?_
        rotate_left
        · intro w'
          go_simp
          with_reducible rfl
        rotate_left
        · simp only [Act.put, List.setIfInBounds_toArray, List.set_cons_zero, List.set_cons_succ, i64_w, i32_w]
          rfl
        refine done_ (by kernel_rfl) ?_
        obtain ⟨A6, c6, rfl⟩ := Kd.N_slice HO6.out
        go_wp2
        go_roundg (gk - 1)
        case measure => have := HK.out; omega
        case rel => exact ⟨i + 1, A6, c6, M2, by go_num, rfl, ⟨by have := HK.out; omega, by omega⟩, HTK, H6, ⟨HD.out.1.below HB6.out, HD.out.2.below HB6.out⟩⟩
      · have hT1 : decide ((i : Int) < (sc.length : Int)) = false := decide_eq_false (by omega)
        have hie : i = sc.length := by have := HK.out; omega
        have HME := Aside0.mk (show L ++ (prV sc).map ev48 = M by rw [HM'.out, hie, List.take_of_length_le (Nat.le_refl _)])
        go_wp2_with (first | ((with_reducible refine gate_ (.store 31 (.tmp 6) (.tmp 100)) rfl ?_); go_must (refine step_put (.tmp 6) (.tmp 100) rfl rfl rfl 0 _ _ rfl rfl HR.out.b6 rfl rfl rfl ?_); intro w7 hw; have HA := Aside0.mk (HR.out.ans 0 HR.out.rn HD.out.2); rw [← hw] at HA; clear hw))
        all_goals refine bodyPost_ret (results_ct rfl _ _ (w.heap.size + 1) 31 _ (0, 0) _ rfl HA.out.1 Try.underlying31 rfl rfl) (by rfl) ?_
        all_goals rw [HME.out]
        all_goals exact HA.out.2
end Go.Proofs.Ytlllbaieidbcdaa.Str
