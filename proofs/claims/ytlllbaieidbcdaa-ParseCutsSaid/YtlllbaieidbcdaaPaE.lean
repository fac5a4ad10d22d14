/- parse.Parser: count. -/
import Derived.Test.YtlllbaieidbcdaaPaD
namespace Go.Proofs.Ytlllbaieidbcdaa.Str
open Go.RowKit Go.Proofs.Ytlllbaieidbcdaa Go.Proofs.Ytlllbaieidbcdaa.PParseEvents Go.Proofs.YtlllbaieidbcdaaW.PrintWords Go.Proofs.YtlllbaieidbcdaaW.PrintLast Go.Proofs.YtlllbaieidbcdaaW.PrintMore
set_option linter.unusedVariables false
set_option linter.unusedSimpArgs false
theorem set_last {n : List Int} {m : Nat} (h : n.length = m + 1) (y : Int) : n.set m y = n.dropLast ++ [y] := by
  have hne : n ≠ [] := by intro e; rw [e] at h; simp at h
  conv => lhs; rw [← List.dropLast_concat_getLast hne]
  rw [List.set_append_right _ _ (by rw [List.length_dropLast]; omega), List.length_dropLast, show m - (n.length - 1) = 0 by omega]
  rfl
theorem getLastD_rd {n : List Int} {m : Nat} (h : n.length = m + 1) : n.getLastD 0 = rd n (m : Int) := by
  have hne : n ≠ [] := by intro e; rw [e] at h; simp at h
  rw [List.getLastD_eq_getLast?, List.getLast?_eq_some_getLast hne, List.getLast_eq_getElem]
  simp only [rd, Int.toNat_natCast, Option.getD_some, List.getD_eq_getElem?_getD]
  rw [List.getElem?_eq_getElem (by omega), Option.getD_some]
  congr 1
  omega
section
variable {w W0 W W1 : World} {g go : Nat} {nv0 nv vo : Value} {p : PP} {out : List Evt}
theorem FS.putn {gn cap ln : Nat} (F : FS w W0 g go nv0 p (.slice (some ⟨gn, 0, none⟩) ln cap) vo out W) (m : Nat) (y : Int) :
    FS w W0 g go nv0 ⟨p.st, p.n.set m y, p.h⟩ (.slice (some ⟨gn, 0, none⟩) ln cap) vo out (W.setCell ⟨gn, m, none⟩ (.int .i64 y)) := by
  obtain ⟨x0, x1, x2, hx, hh⟩ := F.blk
  have ho : (Value.slice (some ⟨gn, 0, none⟩) ln cap).ownBlock = some gn := by simp [Value.ownBlock]
  have h1 : g ≠ gn := fun h => F.nne (by rw [ho, h])
  have h2 : go ≠ gn := fun h => F.nngo (by rw [ho, h])
  have hge : w.heap.size ≤ gn := Kd.R_base F.rn gn ho
  have hr := Kd.R_putn F.rn (m : Int) y
  rw [Int.toNat_natCast] at hr
  refine ⟨⟨F.st.hb.setCell hge _, F.st.ge, F.st.l3, x0, x1, x2, blk_far hx h1 _, hh⟩, hr, F.kp.setCell ?_ _, F.nb, F.n0, F.gl, F.gw, blk_far F.oc h2 _, ?_⟩
  · rcases F.nb gn ho with h | h
    · exact .inl (.inr h.symm)
    · exact .inr (by have := F.gw; show W0.heap.size ≤ gn; omega)
  · exact Kd.N_far (p := ⟨gn, m, none⟩) F.on (fun k hk h => hk.2 (by rw [ho]; exact congrArg some h)) _
theorem FS.form (F : FS w W0 g go nv0 p nv vo out W) {m : Nat} (hm : p.n.length = m + 1) : ∃ gn cap, nv = .slice (some ⟨gn, 0, none⟩) (m + 1) cap ∧ W.cell? ⟨gn, m, none⟩ = some (.int .i64 (p.n.getLastD 0)) ∧ W.frozen? ⟨gn, m, none⟩ = false := by
  obtain ⟨gn, cap, rfl, -, -, cells, hc⟩ := Kd.R_form F.rn (by omega)
  obtain ⟨A, c, e, -, hC⟩ := Kd.R_reads F.rn
  injection e with e1 e2 e3
  obtain ⟨ad, h1, h2⟩ := Kd.at_int hC (m : Int) (by omega) (by omega)
  rw [← e1] at h1
  injection h1 with h1
  subst h1
  rw [Int.toNat_natCast] at h2
  refine ⟨gn, cap, by rw [hm], ?_, blk_frozen hc m⟩
  rw [getLastD_rd hm, ← h2]
  congr 1
  cases m <;> simp [Addr.add]
set_option maxRecDepth 100000 in
set_option maxHeartbeats 4000000 in
theorem FS_count (F : FS w W0 g go nv0 p nv vo out W) (b : Int) (h0 : 0 ≤ b) (h255 : b ≤ 255) (h3 : p.st = 3) (hn : p.n.length ≤ 1000000) (hnb : ∀ x ∈ p.n, -1 ≤ x ∧ x ≤ 9999) :
    Calls Try.prog 26 #[.pointer (some ⟨g, 0, none⟩), .int .u8 b] W fun e w' => e = .returned (.bool (cntV p.n b).1) ∧ ∃ nv1, FS w W0 g go nv0 ⟨(cntV p.n b).2.1, (cntV p.n b).2.2, p.h⟩ nv1 vo out w' := by
  obtain ⟨x0, x1, x2, hx, -⟩ := F.blk
  have hc4 : W.cell? ⟨g, 4, none⟩ = some (.int .i64 p.st) := (blk_cell hx 4).trans rfl
  have hf4 := blk_frozen hx 4
  have hc5 : W.cell? ⟨g, 5, none⟩ = some nv := (blk_cell hx 5).trans rfl
  have HF := Aside0.mk F
  have HN := Aside0.mk hn
  obtain ⟨st, n, h⟩ := p
  dsimp only at *
  obtain rfl : st = 3 := h3
  by_cases c1 : 64 ≤ b
  · have hv : cntV n b = (true, 0, n) := by unfold cntV; rw [if_pos c1]
    have hT : decide (b ≥ 64) = true := decide_eq_true c1
    have HS := Aside0.mk (F.state 0)
    rw [hv]
    clear F hn hnb hx hv hc5
    go_enter Try.func26, Try.ntmps26
    go_wp2
    all_goals go_ret
    all_goals exact ⟨rfl, _, HS.out⟩
  have hT : decide (b ≥ 64) = false := decide_eq_false c1
  by_cases c2 : 48 ≤ b ∧ b < 58
  · have hv : cntV n b = (false, 3, digV n (b - 48)) := by unfold cntV; rw [if_neg c1, if_pos c2]
    have hT1 : decide (b ≥ 48) = true := decide_eq_true c2.1
    have hT2 : decide (b < 58) = true := decide_eq_true c2.2
    rw [hv]
    by_cases hne : n = []
    · have hv2 : digV n (b - 48) = [b - 48] := by unfold digV; rw [if_pos hne]
      rw [hv2]
      subst hne
      obtain ⟨A, c, rfl⟩ := Kd.R_slice F.rn
      clear F hn hnb hx hv hv2 hc4 hf4
      go_enter Try.func26, Try.ntmps26
      go_wp2_with (first | (go_at_call 36; go_must (refine (FS_begun HF.out (by simp)).mono ?_); rintro e w1 ⟨rfl, nv1, hF1⟩; obtain ⟨gn, cap, rfl, hcn, hfn⟩ := hF1.form (m := 0) rfl; obtain ⟨y0, y1, y2, hy, -⟩ := hF1.blk; have hd5 : w1.cell? ⟨g, 5, none⟩ = some (.slice (some ⟨gn, 0, none⟩) (0 + 1) cap) := (blk_cell hy 5).trans rfl; have HF1 := Aside0.mk hF1; clear hF1 hy))
      go_quiet (fail)
      go_wp2
      all_goals go_ret
      all_goals exact ⟨rfl, _, (HF1.out.below (pw_below_drewN (Below.refl _ _) nq)).putn 0 (b - 48)⟩
    · obtain ⟨m, hm⟩ : ∃ m, n.length = m + 1 := ⟨n.length - 1, by have := List.length_pos_iff.2 hne; omega⟩
      obtain ⟨x, hxe⟩ : ∃ x, n.getLastD 0 = x := ⟨_, rfl⟩
      have hxb : -1 ≤ x ∧ x ≤ 9999 := by rw [← hxe, getLastD_rd hm]; exact hnb _ (rd_in (by omega))
      obtain ⟨gn, cap, rfl, hcn, hfn⟩ := F.form hm
      dsimp only at hcn
      rw [hxe] at hcn
      have hwm : IntKind.i64.wrap (m : Int) = (m : Int) := by rw [i64_w, w64 (by omega) (by omega)]
      have hT3 : (((m + 1 : Nat) : Int) == 0) = false := by rw [beq_eq_false_iff_ne]; omega
      have hv2 : digV n (b - 48) = n.set m (min (10 * max x 0 + (b - 48)) 9999) := by unfold digV; rw [if_neg hne, hxe, set_last hm]
      rw [hv2]
      clear F hn hnb hx hv hv2 hc4 hf4 hne hxe
      go_enter Try.func26, Try.ntmps26
      go_wp2
      go_quiet (fail)
      go_wp2
      all_goals go_ret
      all_goals refine ⟨rfl, .slice (some ⟨gn, 0, none⟩) (m + 1) cap, ?_⟩
      all_goals first | (rw [show min (10 * max x 0 + (b - 48)) 9999 = b - 48 by omega]; exact (HF.out.below (pw_below_drewN (Below.refl _ _) nq)).putn m _) | (rw [show min (10 * max x 0 + (b - 48)) 9999 = 9999 by omega]; exact (HF.out.below (pw_below_drewN (Below.refl _ _) nq)).putn m _) | (rw [show min (10 * max x 0 + (b - 48)) 9999 = 10 * x + (b - 48) by omega]; exact (HF.out.below (pw_below_drewN (Below.refl _ _) nq)).putn m _)
  by_cases c3 : b = 59
  · subst c3
    have hv : cntV n 59 = (false, 3, (if n = [] then [-1] else n) ++ [-1]) := by unfold cntV; rw [if_neg c1, if_neg c2, if_pos rfl]
    have hT1 : decide ((59 : Int) ≥ 48) = true := rfl
    have hT2 : decide ((59 : Int) < 58) = false := rfl
    rw [hv]
    by_cases hne : n = []
    · subst hne
      rw [if_pos rfl]
      obtain ⟨A, c, rfl⟩ := Kd.R_slice F.rn
      clear F hn hnb hx hv hc4 hf4
      go_enter Try.func26, Try.ntmps26
      go_wp2_with (first | (go_at_call 36; (with_reducible refine (FS_begun HF.out (by simp)).mono ?_); rintro e w1 ⟨rfl, nv1, hF1⟩; have HF1 := Aside0.mk hF1; clear hF1) | (go_at_call 36; go_must (refine (FS_begun HF1.out (by simp)).mono ?_); rintro e w2 ⟨rfl, nv2, hF2⟩; have HF2 := Aside0.mk hF2; clear hF2))
      all_goals go_ret
      all_goals exact ⟨rfl, _, HF2.out⟩
    · rw [if_neg hne]
      have hpos := List.length_pos_iff.2 hne
      obtain ⟨A, c, rfl⟩ := Kd.R_slice F.rn
      have hT3 : ((n.length : Int) == 0) = false := by rw [beq_eq_false_iff_ne]; omega
      clear F hn hnb hx hv hc4 hf4 hne hpos
      go_enter Try.func26, Try.ntmps26
      go_wp2_with (first | (go_at_call 36; go_must (refine (FS_begun HF.out HN.out).mono ?_); rintro e w1 ⟨rfl, nv1, hF1⟩; have HF1 := Aside0.mk hF1; clear hF1))
      all_goals go_ret
      all_goals exact ⟨rfl, _, HF1.out⟩
  · have hv : cntV n b = (false, 4, n) := by unfold cntV; rw [if_neg c1, if_neg c2, if_neg c3]
    have hT4 : (b == 59) = false := by rw [beq_eq_false_iff_ne]; exact c3
    have HS := Aside0.mk (F.state 4)
    rw [hv]
    by_cases c4 : 48 ≤ b
    · have hT1 : decide (b ≥ 48) = true := decide_eq_true c4
      have hT2 : decide (b < 58) = false := decide_eq_false (by omega)
      clear F hn hnb hx hv hc5
      go_enter Try.func26, Try.ntmps26
      go_wp2
      all_goals go_ret
      all_goals exact ⟨rfl, _, HS.out⟩
    · have hT1 : decide (b ≥ 48) = false := decide_eq_false c4
      clear F hn hnb hx hv hc5
      go_enter Try.func26, Try.ntmps26
      go_wp2
      all_goals go_ret
      all_goals exact ⟨rfl, _, HS.out⟩
end
end Go.Proofs.Ytlllbaieidbcdaa.Str
