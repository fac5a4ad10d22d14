/- parse.Parser: tell, begun, count. -/
import Derived.Test.YtlllbaieidbcdaaPaC
import Derived.Lib.SliceRun
namespace Go.Proofs.Ytlllbaieidbcdaa.Str
open Go.RowKit Go.Proofs.Ytlllbaieidbcdaa Go.Proofs.Ytlllbaieidbcdaa.PParseEvents Go.Proofs.YtlllbaieidbcdaaW.PrintWords Go.Proofs.YtlllbaieidbcdaaW.PrintLast Go.Proofs.YtlllbaieidbcdaaW.PrintMore
set_option linter.unusedVariables false
set_option linter.unusedSimpArgs false
set_option maxRecDepth 100000 in
set_option maxHeartbeats 4000000 in
theorem Clone_int (A : Option Addr) (c : Nat) (l : List Int) (w : World) (hC : Kd.C (Kd.int .i64) w A l.length l) (hlen : l.length ≤ 1000000) :
    Calls Try.prog 21 #[.slice A l.length c] w fun r w' => ∃ v, r = .returned v ∧ Kd.R (Kd.int .i64) 3 w' w.heap.size (fun _ => True) v l ∧ Below w.heap.size w w' := by
  have HB := Aside0.mk (Below.refl w.heap.size w)
  rcases A with _ | ad
  · have hl0 : l = [] := by
      rcases Nat.eq_zero_or_pos l.length with h | h
      · exact List.eq_nil_of_length_eq_zero h
      · obtain ⟨ad, h', _⟩ := hC.2.2 h; cases h'
    have hq := Lib.run_eql_slice_nil (P := Try.prog) w 26 3 none l.length c 0 0 Try.underlying26
    have HL := Aside0.mk hl0
    clear hC hl0
    simp at hq
    go_enter Try.func21, Try.ntmps21
    go_wp2
    go_ret
    exact ⟨_, rfl, by rw [HL.out]; exact Kd.R_nil _ _ _ _ _, Below.refl _ _⟩
  · have hq := Lib.run_eql_slice_nil (P := Try.prog) w 26 3 (some ad) l.length c 0 0 Try.underlying26
    simp at hq
    have HC := Aside0.mk hC
    clear hC
    have HO := Aside0.mk (R_lit_int .i64 (W := w) w.heap.size 3 [] (Nat.le_refl _) (by simp))
    go_enter Try.func21, Try.ntmps21
    go_wp2_with (first | (at_builtin; refine Kd.R_append_rows (Kd.int .i64) (w0 := w) w.heap.size rfl (.tmp 5) (.tmp 6) 26 3 (.int .i64 0) 8 rfl Try.underlying26 info3p rfl (by decide) (by omega) _ ([] : List Int) l _ _ _ (fun _ => True) (fun _ => False) rfl rfl ?aO ?aR (fun _ _ h => h) (fun _ h => h.elim) (fun _ _ => trivial) ?aB ?aS ?aL ?_; (case aO => exact HO.out); (case aR => exact Kd.C_below HC.out (below_alloc (Below.refl _ _) _)); (case aB => exact (by repeat (first | (with_reducible first | exact HB.out | apply below_alloc | apply pw_below_drewN | apply below_drew1) | exact HB.out))); (case aS => simp); (case aL => simp; omega); intro vq wq ho hb hg hat; have HX := Aside0.mk (And.intro ho hb); clear ho hb hg hat))
    go_ret
    exact ⟨_, rfl, HX.out.1, HX.out.2⟩
section
variable {w W0 W W1 : World} {g go : Nat} {nv0 nv vo : Value} {p : PP} {out : List Evt}
set_option maxRecDepth 100000 in
set_option maxHeartbeats 4000000 in
theorem FS_tell (F : FS w W0 g go nv0 p nv vo out W) (A : Option Addr) (c : Nat) (l : List Evt) (okl : Nat → Prop) (hF : Kd.F kEv W okl A l.length l) (hok : ∀ k, okl k → (go < k ∧ some k ≠ nv.ownBlock) ∧ some k ≠ vo.ownBlock) (hl : out.length + l.length ≤ 1000000) :
    Calls Try.prog 22 #[.slice A l.length c, .pointer (some ⟨go, 0, none⟩)] W fun e w' => e = .returned (.tuple #[]) ∧ ∃ vo1, FS w W0 g go nv0 p nv vo1 (out ++ l) w' := by
  have hcell : W.cell? ⟨go, 0, none⟩ = some vo := (blk_cell F.oc 0).trans rfl
  have hfz := blk_frozen F.oc 0
  have HF := Aside0.mk F
  have HC := Aside0.mk hF
  have HL := Aside0.mk hl
  have HK := Aside0.mk hok
  have HFR := Aside0.mk (show ∀ k, W.heap.size ≤ k → go < k ∧ some k ≠ nv.ownBlock from fun k hk => ⟨Nat.lt_of_lt_of_le F.gs hk, fun h => by have := F.nlt k h.symm; omega⟩)
  clear F hF hl hok
  go_enter Try.func22, Try.ntmps22
  go_wp2_with (first | ((with_reducible refine gate_builtin (b := .append) (xs := #[.tmp 3, .tmp 4]) rfl ?_); go_must (at_builtin); go_must (refine Kd.N_append_rows kEv (w0 := W) go rfl (.tmp 3) (.tmp 4) 38 46 _ 40 rfl Try.underlying38 infoEv rfl (by decide) (by omega) vo out l A _ c (fun k => go < k ∧ some k ≠ nv.ownBlock) okl rfl rfl HF.out.on HC.out HK.out HFR.out (Below.refl _ _) (Nat.le_of_lt HF.out.gs) (by have := HL.out; omega) ?_); intro v4 w4 ho hb hg hat; obtain ⟨A4, c4, e4⟩ := Kd.N_slice ho; generalize (out ++ l).length = n4 at e4; subst e4; have HF4 := Aside0.mk (HF.out.told ho hb hg); have hx4 := blk_grown HF.out.oc hg HF.out.one; have hc4 : w4.cell? ⟨go, 0, none⟩ = some vo := (blk_cell hx4 0).trans rfl; have hf4 := blk_frozen hx4 0; clear ho hb hg hat hx4))
  go_end0
  exact ⟨rfl, _, HF4.out⟩
set_option maxRecDepth 100000 in
set_option maxHeartbeats 4000000 in
theorem FS_begun (F : FS w W0 g go nv0 p nv vo out W) (hn : p.n.length ≤ 1000000) :
    Calls Try.prog 36 #[.pointer (some ⟨g, 0, none⟩)] W fun e w' => e = .returned (.tuple #[]) ∧ ∃ nv1, FS w W0 g go nv0 ⟨p.st, p.n ++ [-1], p.h⟩ nv1 vo out w' := by
  obtain ⟨x0, x1, x2, hx, -⟩ := F.blk
  have hcell : W.cell? ⟨g, 5, none⟩ = some nv := (blk_cell hx 5).trans rfl
  have HX := Aside0.mk hx
  have HF := Aside0.mk F
  have HN := Aside0.mk hn
  clear F hn hx
  go_enter Try.func36, Try.ntmps36
  go_wp2_with (first | ((with_reducible refine gate_builtin (b := .append) (xs := #[.tmp 6, .tmp 7]) rfl ?_); go_must (at_builtin); go_must (refine Kd.R_append (Kd.int .i64) (w0 := w) w.heap.size rfl (.tmp 6) (.tmp 7) 26 3 (.int .i64 0) 8 rfl Try.underlying26 info3p rfl (by decide) (by omega) nv p.n (-1) [.int .i64 (-1)] (fun _ => True) (fun _ => False) rfl rfl rfl (fun _ h => h.elim) (fun _ _ => trivial) HF.out.rn HF.out.st.hb HF.out.st.hb.size (by have := HN.out; omega) ?_); intro v4 w4 ho hb hg hat; obtain ⟨A4, c4, e4⟩ := Kd.R_slice ho; generalize (p.n ++ [-1]).length = n4 at e4; subst e4; have HF4 := Aside0.mk (HF.out.nums ho hb hg (hat.imp_right .inr)); have hx4 := blk_grown HX.out hg HF.out.nne; have hc4 : w4.cell? ⟨g, 5, none⟩ = some nv := (blk_cell hx4 5).trans rfl; have hf4 := blk_frozen hx4 5; clear ho hb hg hat hx4))
  go_end0
  exact ⟨rfl, _, HF4.out⟩
end
end Go.Proofs.Ytlllbaieidbcdaa.Str
