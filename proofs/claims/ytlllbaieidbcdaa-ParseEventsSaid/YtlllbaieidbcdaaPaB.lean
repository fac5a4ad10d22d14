/- utf.Stream: Feed. -/
import Derived.Test.YtlllbaieidbcdaaPaA
namespace Go.Proofs.Ytlllbaieidbcdaa.Str
open Go.RowKit Go.Proofs.Ytlllbaieidbcdaa Go.Proofs.Ytlllbaieidbcdaa.PParseEvents Go.Proofs.YtlllbaieidbcdaaW.PrintWords Go.Proofs.YtlllbaieidbcdaaW.PrintLast Go.Proofs.YtlllbaieidbcdaaW.PrintMore
set_option linter.unusedVariables false
set_option linter.unusedSimpArgs false
variable {st : Int} {nv : Value}
theorem parse_any (A : Option Addr) (c : Nat) (l : List Int) (w : World) (hC : Kd.C (Kd.int .u8) w A l.length l) (hc : l.length ≤ c) (h8 : In8u l) (hne : l ≠ []) {r n : Int} {m : Bool} (hp : parseZ l = (r, n, m)) :
    Calls Try.prog 35 #[.slice A l.length c] w fun e w' => e = .returned (.tuple #[.int .i32 r, .int .i64 n, .bool m]) ∧ Below w.heap.size w w' :=
  (utf_parse.calls 10 A c l r n m w hC hc (by rw [p_parse l h8 hne 10 (Nat.le_refl _), hp])).mono (fun e w' ⟨a, b⟩ => ⟨a, b.below⟩)
set_option maxRecDepth 100000 in
theorem slice_arr_all (W : World) (g : Nat) : (Instr.sliceAt 23 (.pointer (some ⟨g, 0, none⟩)) none none none).run Try.prog W = .ok (.slice (some ⟨g, 0, none⟩) 3 3) W := by
  rw [run_sliceAt_array_all W 23 ⟨g, 0, none⟩ (by kernel_rfl)]
  rw [show Try.prog.arrayLen 23 = 3 by kernel_rfl, show Try.prog.elem 23 = 5 by kernel_rfl]
  rfl
theorem info5 : (Try.prog.info? 5).map (fun i => (i.zero, i.size, i.bytes)) = some (some (.int .u8 0), 1, 1) := by kernel_rfl
set_option maxHeartbeats 4000000 in
set_option maxRecDepth 100000 in
theorem Feed_any (w W : World) (g : Nat) (h : List Int) (A : Option Addr) (c : Nat) (b sc hl : List Int) (hs : StS st nv w W g h) (hC : Kd.C (Kd.int .u8) W A b.length b) (hc : b.length ≤ c) (h8 : In8u (h ++ b)) (hlen : b.length ≤ 1000000)
    (hcut : cutZ (h ++ b) = (sc, hl)) :
    Calls Try.prog 25 #[.pointer (some ⟨g, 0, none⟩), .slice A b.length c] W fun e w' => ∃ v, e = .returned v ∧ Kd.R (Kd.int .i32) 21 w' W.heap.size (fun _ => True) v sc ∧ StS st nv w w' g hl ∧ W.grownBy w' (some g) := by
  have HS := Aside0.mk hs
  obtain ⟨x0, x1, x2, hx, -⟩ := hs.hx
  have HX := Aside0.mk hx
  have HC := Aside0.mk hC
  have HQ := Aside0.mk (And.intro hc (And.intro hlen hs.l3))
  have H8 := Aside0.mk h8
  have HU := Aside0.mk hcut
  clear hs hC hc h8 hlen hcut hx
  go_enter Try.func25, Try.ntmps25
  go_wp2_with (first | (go_at_call 27; refine (Held_any w W g h HS.out).mono ?_; rintro e w1 ⟨v, rfl, hR, hbb⟩; obtain ⟨A0, c0, rfl⟩ := Kd.R_slice hR; have H1 := Aside0.mk (And.intro hR hbb); clear hR hbb) | (((with_reducible refine gate_builtin (b := .append) (xs := #[.tmp 13, .tmp 14]) rfl ?_); at_builtin; (first | (refine unguard (by rfl) ?_; dsimp only) | skip); refine Kd.R_append_rows (Kd.int .u8) (w0 := W) W.heap.size rfl (.tmp 13) (.tmp 14) 29 5 (.int .u8 0) 1 rfl Try.underlying29 info5 rfl (by decide) (by omega) _ h b _ _ _ (fun _ => True) (fun _ => False) rfl rfl ?aO ?aR (fun _ _ h => h) (fun _ h => h.elim) (fun _ _ => trivial) ?aB ?aS ?aL ?_; (case aO => exact H1.out.1); (case aR => exact (Kd.C_below HC.out H1.out.2)); (case aB => exact H1.out.2); (case aS => exact (Below.size H1.out.2)); (case aL => have := HQ.out; omega); intro vP1 wP1 ho hb hg hat; (try simp only [List.nil_append] at ho); have P1 := Aside0.mk (And.intro ho hb); clear ho hb hg hat); have hx1 := blk_below HX.out P1.out.2; have hf1 := blk_frozen hx1 3; have hc1 : wP1.cell? ⟨g, 3, none⟩ = some (.int .i64 h.length) := (blk_cell hx1 3).trans rfl; have HX1 := Aside0.mk hx1; obtain ⟨A1, c1, rfl, hcc, hCC⟩ := Kd.R_reads P1.out.1; have HC1 := Aside0.mk (And.intro hCC hcc); clear hx1 hcc hCC))
  -- the loop
  have hwl : ∃ wl, wl = wP1.setCell ⟨g, 3, none⟩ (.int .i64 0) := ⟨_, rfl⟩
  obtain ⟨wl, hwl⟩ := hwl
  rw [← hwl]
  have HWX := Aside0.mk (show wl.heap[g]? = some (.cells #[.int .u8 x0, .int .u8 x1, .int .u8 x2, .int .i64 0, .int .i64 st, nv] 28 (0, 0)) by rw [hwl]; simpa using blk_set HX1.out 3 (.int .i64 0))
  have HWB := Aside0.mk (show Below w.heap.size w wl by rw [hwl]; exact (below_then HS.out.hb HS.out.hb.size P1.out.2).setCell HS.out.ge _)
  have HWG := Aside0.mk (show W.grownBy wl (some g) by rw [hwl]; exact grown_set (below_grown0 P1.out.2 (some g)) 3 _)
  have HWS := Aside0.mk (show W.heap.size ≤ wl.heap.size from HWG.out.size)
  have HWC := Aside0.mk (show Kd.C (Kd.int .u8) wl A1 (h ++ b).length (h ++ b) by
    have hr := R_low P1.out.1 (p := ⟨g, 3, none⟩) (show g < W.heap.size from blk_lt HX.out) (.int .i64 0)
    obtain ⟨A', c', e, -, hC'⟩ := Kd.R_reads hr
    injection e with e1 e2 e3
    rw [hwl, e1]
    exact hC')
  have HHB := Aside0.mk (show (h ++ b).length ≤ 1000003 by have := HQ.out; rw [List.length_append]; omega)
  clear hwl
  go_loopg [5, 6] ((h ++ b).length + 1) (fun kq v5 v6 w' => ∃ (A2 : Option Addr) (c2 : Nat) (L out : List Int), v6 = .slice A2 L.length c2 ∧ Aside0 (kq = L.length + 1) ∧ Aside0 (L.length ≤ c2 ∧ Kd.C (Kd.int .u8) wl A2 L.length L ∧ In8u L ∧ L.length + out.length ≤ 1000003) ∧ Aside0 (out ++ (cutZ L).1 = sc ∧ (cutZ L).2 = hl) ∧ Aside0 (Kd.R (Kd.int .i32) 21 w' wl.heap.size (fun _ => True) v5 out) ∧ Aside0 (Below wl.heap.size wl w'))
  case atStart => exact ⟨A1, c1, h ++ b, [], by rw [List.length_append], ⟨rfl⟩, ⟨HC1.out.2, HWC.out, H8.out, by simpa using HHB.out⟩, ⟨by rw [HU.out]; rfl, by rw [HU.out]⟩, ⟨Kd.R_nil _ _ _ _ _⟩, ⟨Below.refl _ _⟩⟩
  case round =>
    obtain ⟨A2, c2, L, out, rfl, HK, HL, HE, HO, HB⟩ := hrel
    by_cases hL : L = []
    · subst hL
      have HF := Aside0.mk (show out = sc ∧ [] = hl by have := HE.out; rw [cutZ_nil, List.append_nil] at this; exact this)
      clear HE HL
      go_wp2
      all_goals go_ret
      all_goals exact ⟨_, rfl, by rw [← HF.out.1]; exact Kd.R_lower HO.out HWS.out, ⟨below_then HWB.out HWB.out.size HB.out, HS.out.ge, by rw [← HF.out.2]; simp, x0, x1, x2, by rw [← HF.out.2]; exact blk_below HWX.out HB.out, by rw [← HF.out.2]; rfl⟩, grown_trans HWG.out (below_grown0 HB.out (some g)) (fun b e => .inl e)⟩
    · obtain ⟨r, n, m, hp⟩ : ∃ r n m, parseZ L = (r, n, m) := ⟨_, _, _, rfl⟩
      have HN := Aside0.mk hL
      have HP := Aside0.mk hp
      have hpos := List.length_pos_iff.2 hL
      have hT : decide ((L.length : Int) > 0) = true := decide_eq_true (by omega)
      clear hp hL
      cases m
      · -- one scalar
        have hq : 1 ≤ n ∧ n ≤ (L.length : Int) := by
          match L, HN.out, HP.out with
          | a :: t, _, e => have := parseZ_pos a t (by rw [e]); rw [e] at this; exact this
        obtain ⟨A3, hcut, hread, hl3⟩ := cut_drop (P := Try.prog) (Kd.int .u8) 29 5 .i64 Try.underlying29 info5 A2 c2 L n (by omega) hq.2 HL.out.1
        have HC3 := Aside0.mk (hread wl HL.out.2.1)
        have HL3 := Aside0.mk hl3
        have HCU := Aside0.mk (show cutZ L = (r :: (cutZ (L.drop n.toNat)).1, (cutZ (L.drop n.toNat)).2) by rw [cutZ_on HN.out (by rw [HP.out]), HP.out])
        have HQ2 := Aside0.mk hq
        obtain ⟨L3, hL3⟩ : ∃ L3, L.drop n.toNat = L3 := ⟨_, rfl⟩
        have HD := Aside0.mk (show L3.length + n.toNat = L.length by rw [← hL3, List.length_drop]; omega)
        have H83 := Aside0.mk (show In8u L3 by rw [← hL3]; exact fun x hx => HL.out.2.2.1 x (List.mem_of_mem_drop hx))
        rw [hL3] at hcut HC3 HL3 HCU
        clear hq hread hl3 hL3
        go_wp2_with (first | (go_at_call 35; refine (parse_any A2 c2 L _ (Kd.C_below HL.out.2.1 HB.out) HL.out.1 HL.out.2.2.1 HN.out HP.out).mono ?_; rintro e w2 ⟨rfl, hbb⟩; have HB2 := Aside0.mk (below_then HB.out HB.out.size hbb); have HO2 := Aside0.mk (Kd.R_below HO.out hbb); clear hbb))
        have HLO := Aside0.mk (show (out.length + 1) * 4 ≤ 140737488355328 by have := HL.out.2.2.2; omega)
        refine start_ (n := 9) (S := fun w' => True) (ds := [2, 3]) #[false, false, false, false, false, false, false, false, false] (by kernel_rfl) rfl rfl trivial (fun hHeld => ?_)
        refine pure_ (i := 0) (N := some 38) (v := ?_) (a' := ?_) #[true, false, false, false, false, false, false, false, false] rfl rfl (by kernel_rfl) (fun _ _ _ h => h) (Or.inl ⟨by rfl, ?_⟩) ?_ ?_
        rotate_left
        · intro w'
          go_simp
          with_reducible rfl
        rotate_left
        · simp only [Act.put, List.setIfInBounds_toArray, List.set_cons_zero, List.set_cons_succ, i64_w, i32_w]
          rfl
        refine pure_ (i := 1) (N := some 39) (v := ?_) (a' := ?_) #[true, true, false, false, false, false, false, false, false] rfl rfl (by kernel_rfl) (fun _ _ _ h => h) (Or.inl ⟨by rfl, ?_⟩) ?_ ?_
        rotate_left
        · intro w'
          go_simp
          with_reducible rfl
        rotate_left
        · simp only [Act.put, List.setIfInBounds_toArray, List.set_cons_zero, List.set_cons_succ, i64_w, i32_w]
          rfl
        refine pure_ (i := 4) (N := some 42) (v := ?_) (a' := ?_) #[true, true, false, false, true, false, false, false, false] rfl rfl (by kernel_rfl) (fun _ _ _ h => h) (Or.inl ⟨by rfl, ?_⟩) ?_ ?_
        rotate_left
        · intro w'
          go_simp
          with_reducible rfl
        rotate_left
        · simp only [Act.put, List.setIfInBounds_toArray, List.set_cons_zero, List.set_cons_succ, i64_w, i32_w]
          rfl
        refine pure_ (i := 5) (N := some 43) (v := ?_) (a' := ?_) #[true, true, false, false, true, true, false, false, false] rfl rfl (by kernel_rfl) (fun _ _ _ h => h) (Or.inl ⟨by rfl, ?_⟩) ?_ ?_
        rotate_left
        · intro w'
          go_simp
          with_reducible rfl
        rotate_left
        · simp only [Act.put, List.setIfInBounds_toArray, List.set_cons_zero, List.set_cons_succ, i64_w, i32_w]
          rfl
        refine pure_ (i := 6) (N := some 44) (v := ?_) (a' := ?_) #[true, true, false, false, true, true, true, false, false] rfl rfl (by kernel_rfl) (fun _ _ _ h => h) (Or.inl ⟨by rfl, ?_⟩) ?_ ?_
        rotate_left
        · intro w'
          go_simp
          with_reducible rfl
        rotate_left
        · simp only [Act.put, List.setIfInBounds_toArray, List.set_cons_zero, List.set_cons_succ, i64_w, i32_w]
          rfl
        refine last_ (i := 2) (N := some 40) #[true, true, true, false, true, true, true, false, false] rfl rfl (by kernel_rfl) (by decide) (fun K hK => ?_)
        refine value_ (w1 := ?_) (v := ?_) (by rfl) rfl ?_ ?_
        rotate_left 2
        · go_simp
          constructor
          · rfl
          · rfl
        refine hK.out _ _ ?_
        clear hK K
        refine norm_ (a' := ?_) ?_ ?_
        rotate_left
        · show Act.put _ (some 40) _ = _
          simp only [Act.put, List.setIfInBounds_toArray, List.set_cons_zero, List.set_cons_succ, i64_w, i32_w]
          rfl
        refine last_ (i := 3) (N := some 41) #[true, true, true, true, true, true, true, false, false] rfl rfl (by kernel_rfl) (by decide) (fun K hK => ?_)
        refine Kd.R_append_step (Kd.int .i32) (w0 := wl) wl.heap.size (by rfl) (.tmp 38) (.tmp 40) 61 21 (.int .i32 0) 4 (by rfl) Try.underlying61 info21s rfl (by decide) (by omega) u5 out r [.int .i32 r] (fun _ => True) (fun _ => False) (by rfl) (by rfl) rfl (fun _ hk => hk.elim) (fun _ _ => trivial) (Kd.R_drew HO2.out) (below_drew HB2.out) HB2.out.size HLO.out ?_
        intro v4 w4 ho hb hg4 hat
        have HO4 := Aside0.mk ho
        have HB4 := Aside0.mk hb
        clear ho hb hg4 hat
        refine hK.out _ _ ?_
        clear hK K
        refine norm_ (a' := ?_) ?_ ?_
        rotate_left
        · show Act.put _ (some 41) _ = _
          simp only [Act.put, List.setIfInBounds_toArray, List.set_cons_zero, List.set_cons_succ, i64_w, i32_w]
          rfl
        refine pure_ (i := 7) (N := some 5) (v := ?_) (a' := ?_) #[true, true, true, true, true, true, true, true, false] rfl rfl (by kernel_rfl) (fun _ _ _ h => h) (Or.inl ⟨by rfl, ?_⟩) ?_ ?_
        rotate_left
        · intro w'
          go_simp
          with_reducible rfl
        rotate_left
        · simp only [Act.put, List.setIfInBounds_toArray, List.set_cons_zero, List.set_cons_succ, i64_w, i32_w]
          rfl
        refine pure_ (i := 8) (N := some 6) (v := ?_) (a' := ?_) #[true, true, true, true, true, true, true, true, true] rfl rfl (by kernel_rfl) (fun _ _ _ h => h) (Or.inl ⟨by rfl, ?_⟩) ?_ ?_
        rotate_left
        · intro w'
          go_simp
          with_reducible rfl
        rotate_left
        · simp only [Act.put, List.setIfInBounds_toArray, List.set_cons_zero, List.set_cons_succ, i64_w, i32_w]
          rfl
        refine done_ (by kernel_rfl) ?_
        all_goals go_wp2
        go_roundg (L3.length + 1)
        case measure => have := HK.out; have := HD.out; have := HQ2.out; omega
        case rel => exact ⟨A3, _, L3, out ++ [r], rfl, ⟨rfl⟩, ⟨HL3.out, HC3.out, H83.out, by have := HL.out.2.2.2; have := HD.out; have := HQ2.out; rw [List.length_append, List.length_singleton]; omega⟩, ⟨by have := HE.out.1; rw [HCU.out] at this; rw [← this, List.append_assoc]; rfl, by have := HE.out.2; rw [HCU.out] at this; exact this⟩, HO4, HB4⟩
      · -- none yet: it is held
        have hl3 := parse_more3 L (by rw [HP.out])
        have HM := Aside0.mk (show out = sc ∧ L = hl by have := HE.out; rw [cutZ_more (by rw [HP.out]), List.append_nil] at this; exact this)
        have HL3 := Aside0.mk hl3
        clear hl3
        have hsa := fun W' => slice_arr_all W' g
        go_wp2_with (first | (go_at_call 35; refine (parse_any A2 c2 L _ (Kd.C_below HL.out.2.1 HB.out) HL.out.1 HL.out.2.2.1 HN.out HP.out).mono ?_; rintro e w2 ⟨rfl, hbb⟩; have HB2 := Aside0.mk (below_then HB.out HB.out.size hbb); have HO2 := Aside0.mk (Kd.R_below HO.out hbb); clear hbb; obtain ⟨w5, hcp, hbk, hgr⟩ := held_copy w2 g x0 x1 x2 _ A2 c2 L (blk_below HWX.out HB2.out) (Kd.C_below HL.out.2.1 HB2.out) HL3.out; obtain ⟨y0, y1, y2, hb5, hy⟩ := hbk; have HCP := Aside0.mk hcp; have HY := Aside0.mk hy; have HG5 := Aside0.mk hgr; have HB5 := Aside0.mk hb5; clear hcp hy hgr hb5) | ((with_reducible refine gate_builtin (b := .copy) (xs := #[.tmp 33, .tmp 34]) rfl ?_); go_must (refine step_copy rfl (.tmp 33) (.tmp 34) 29 29 _ _ _ rfl rfl rfl HCP.out ?_); have hf5 := blk_frozen HB5.out 3; have hc5 : w5.cell? ⟨g, 3, none⟩ = some (.int .i64 0) := (blk_cell HB5.out 3).trans rfl))
        all_goals go_ret
        have hgl : g < wl.heap.size := Nat.lt_of_lt_of_le (blk_lt HX.out) HWS.out
        have hR5 : Kd.R (Kd.int .i32) 21 w5 wl.heap.size (fun _ => True) u5 out := Kd.R_mono (Kd.R_grown (Kd.R_bound HO2.out) HG5.out (fun k hk e => by injection e with e; have := hk.2.1; omega)) (fun _ _ => trivial)
        have hR6 := R_low hR5 (p := ⟨g, 3, none⟩) hgl (.int .i64 L.length)
        have hg5 := grown_trans (grown_trans HWG.out (below_grown0 HB2.out (some g)) (fun b e => .inl e)) HG5.out (fun b e => .inl e)
        all_goals exact ⟨_, rfl, by rw [← HM.out.1]; exact Kd.R_lower hR6 HWS.out, by
          rw [← HM.out.2]
          exact ⟨(below_grown_ge (below_then HWB.out HWB.out.size HB2.out) HG5.out HS.out.ge).setCell HS.out.ge _, HS.out.ge, HL3.out, y0, y1, y2, by simpa using blk_set HB5.out 3 (.int .i64 L.length), HY.out⟩, grown_set hg5 3 _⟩
end Go.Proofs.Ytlllbaieidbcdaa.Str
