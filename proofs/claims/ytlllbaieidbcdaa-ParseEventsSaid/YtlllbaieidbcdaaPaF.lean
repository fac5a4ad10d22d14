/- parse.Parser: the world of Feed, and what its parts do. -/
import Derived.Test.YtlllbaieidbcdaaPaB
import Derived.Test.YtlllbaieidbcdaaPaP
import Derived.Test.YtlllbaieidbcdaaWNEv
import Derived.Lib.SliceRun
namespace Go.Proofs.Ytlllbaieidbcdaa.Str
open Go.RowKit Go.Proofs.Ytlllbaieidbcdaa Go.Proofs.Ytlllbaieidbcdaa.PParseEvents Go.Proofs.YtlllbaieidbcdaaW.PrintWords Go.Proofs.YtlllbaieidbcdaaW.PrintLast Go.Proofs.YtlllbaieidbcdaaW.PrintMore
set_option linter.unusedVariables false
set_option linter.unusedSimpArgs false
abbrev kEv := k46
abbrev tEv : Nat := 46
theorem infoEv : (Try.prog.info? 46).map (fun i => (i.zero, i.size, i.bytes)) = some (some (.agg #[.int .i64 0, .int .i32 0, .slice none 0 0]), 3, 40) := by kernel_rfl
theorem info3p : (Try.prog.info? 3).map (fun i => (i.zero, i.size, i.bytes)) = some (some (.int .i64 0), 1, 8) := by kernel_rfl
/-- A parser stands at g, within Feed: what is told is out, in the variable go. -/
structure FS (w W0 : World) (g go : Nat) (nv0 : Value) (p : PP) (nv vo : Value) (out : List Evt) (W : World) : Prop where
  st : StS p.st nv w W g p.h
  rn : Kd.R (Kd.int .i64) 3 W w.heap.size (fun _ => True) nv p.n
  kp : Kept W0 W (fun k => k = g ∨ some k = nv0.ownBlock)
  nb : ∀ k, nv.ownBlock = some k → nv0.ownBlock = some k ∨ go < k
  n0 : ∀ k, nv0.ownBlock = some k → k < go
  gl : g < go
  gw : go = W0.heap.size
  oc : W.heap[go]? = some (.cells #[vo] 38 (0, 0))
  on : Kd.N kEv 46 W go (fun k => go < k ∧ some k ≠ nv.ownBlock) vo out
section
variable {w W0 W W1 : World} {g go : Nat} {nv0 nv vo : Value} {p : PP} {out : List Evt}
theorem FS.gs (F : FS w W0 g go nv0 p nv vo out W) : go < W.heap.size := blk_lt F.oc
theorem FS.blk (F : FS w W0 g go nv0 p nv vo out W) : ∃ x0 x1 x2 : Int, W.heap[g]? = some (.cells #[.int .u8 x0, .int .u8 x1, .int .u8 x2, .int .i64 p.h.length, .int .i64 p.st, nv] 28 (0, 0)) ∧ p.h = [x0, x1, x2].take p.h.length := F.st.hx
theorem FS.nne (F : FS w W0 g go nv0 p nv vo out W) : some g ≠ nv.ownBlock := by
  obtain ⟨x0, x1, x2, hx, -⟩ := F.blk
  exact Kd.R_ne F.rn hx (by decide)
theorem FS.nngo (F : FS w W0 g go nv0 p nv vo out W) : some go ≠ nv.ownBlock := Kd.R_ne F.rn F.oc (by decide)
theorem FS.nlt (F : FS w W0 g go nv0 p nv vo out W) : ∀ k, nv.ownBlock = some k → k < W.heap.size := Kd.R_lt F.rn
theorem FS.one (F : FS w W0 g go nv0 p nv vo out W) : some go ≠ vo.ownBlock := Kd.N_ne F.on F.oc (by decide)
theorem FS.one_g (F : FS w W0 g go nv0 p nv vo out W) : some g ≠ vo.ownBlock := fun h => by have := (F.on.1 g h.symm).1; have := F.gl; omega
/-- The stream's part has changed, or the state. -/
theorem FS.grown (F : FS w W0 g go nv0 p nv vo out W) (hG : W.grownBy W1 (some g)) {q : PP} (hq : q.n = p.n) (hS : StS q.st nv w W1 g q.h) : FS w W0 g go nv0 q nv vo out W1 := by
  obtain ⟨x0, x1, x2, hx, -⟩ := F.blk
  refine ⟨hS, ?_, Kept.of_grown hG F.kp (fun k hk => by injection hk with hk; exact .inl (.inl hk.symm)), F.nb, F.n0, F.gl, F.gw, blk_grown F.oc hG (fun h => by injection h with h; have := F.gl; omega), ?_⟩
  · rw [hq]
    exact Kd.R_mono (Kd.R_grown (Kd.R_types F.rn hx (by decide)) hG (fun k hk h => by injection h with h; exact hk.2 h)) (fun _ _ => trivial)
  · exact Kd.N_grown F.on hG (fun k hk h => by injection h with h; have := F.gl; have := hk.1; omega)
theorem FS.below (F : FS w W0 g go nv0 p nv vo out W) (hb : Below W.heap.size W W1) : FS w W0 g go nv0 p nv vo out W1 := by
  obtain ⟨x0, x1, x2, hx, hh⟩ := F.blk
  exact ⟨⟨below_then F.st.hb F.st.hb.size hb, F.st.ge, F.st.l3, x0, x1, x2, blk_below hx hb, hh⟩, Kd.R_below F.rn hb, F.kp.below hb, F.nb, F.n0, F.gl, F.gw, blk_below F.oc hb, Kd.N_below F.on hb⟩
/-- The state is set. -/
theorem FS.state (F : FS w W0 g go nv0 p nv vo out W) (s : Int) : FS w W0 g go nv0 ⟨s, p.n, p.h⟩ nv vo out (W.setCell ⟨g, 4, none⟩ (.int .i64 s)) := by
  obtain ⟨x0, x1, x2, hx, hh⟩ := F.blk
  refine F.grown (grown_set (grown_refl _ _) 4 _) rfl ⟨F.st.hb.setCell F.st.ge _, F.st.ge, F.st.l3, x0, x1, x2, ?_, hh⟩
  simpa using blk_set hx 4 (.int .i64 s)
/-- The numbers are a row of another. -/
theorem FS.nums (F : FS w W0 g go nv0 p nv vo out W) {nv1 : Value} {n1 : List Int} (hR : Kd.R (Kd.int .i64) 3 W1 w.heap.size (fun _ => True) nv1 n1) (hB : Below w.heap.size w W1) (hG : W.grownBy W1 nv.ownBlock) (hat : nv1.ownBlock = nv.ownBlock ∨ nv1.ownBlock = none ∨ ∃ b, nv1.ownBlock = some b ∧ W.heap.size ≤ b) :
    FS w W0 g go nv0 ⟨p.st, n1, p.h⟩ nv1 vo out (W1.setCell ⟨g, 5, none⟩ nv1) := by
  obtain ⟨x0, x1, x2, hx, hh⟩ := F.blk
  have hx1 := blk_grown hx hG F.nne
  have hgs := F.gs
  have hnl := F.nlt
  refine ⟨⟨hB.setCell F.st.ge _, F.st.ge, F.st.l3, x0, x1, x2, by simpa using blk_set hx1 5 nv1, hh⟩, ?_, ?_, ?_, F.n0, F.gl, F.gw, blk_far (blk_grown F.oc hG F.nngo) (show go ≠ g by have := F.gl; omega) _, ?_⟩
  · exact Kd.R_set hR hx1 (by decide) 5 nv1
  · refine (Kept.of_grown hG F.kp (fun k hk => ?_)).setCell (.inl (.inl rfl)) _
    rcases F.nb k hk with h | h
    · exact .inl (.inr h.symm)
    · exact .inr (by have := F.gw; omega)
  · intro k hk
    rcases hat with h | h | ⟨b, hb, hle⟩
    · exact F.nb k (h ▸ hk)
    · rw [h] at hk; cases hk
    · rw [hb] at hk; injection hk with hk; exact .inr (by omega)
  · refine Kd.N_far (p := ⟨g, 5, none⟩) (Kd.N_mono (Kd.N_grown (Kd.N_bound F.on) hG (fun k hk => hk.1.2)) (fun k hk => ⟨hk.1.1, ?_⟩)) (fun k hk => by have := F.gl; have := hk.1; show k ≠ g; omega) _
    rcases hat with h | h | ⟨b, hb, hle⟩
    · rw [h]; exact hk.1.2
    · rw [h]; simp
    · rw [hb]; intro he; injection he with he; have := hk.2; omega
/-- What was told is a row of another. -/
theorem FS.told (F : FS w W0 g go nv0 p nv vo out W) {vo1 : Value} {out1 : List Evt} (hN : Kd.N kEv 46 W1 go (fun k => go < k ∧ some k ≠ nv.ownBlock) vo1 out1) (hB : Below go W W1) (hG : W.grownBy W1 vo.ownBlock) :
    FS w W0 g go nv0 p nv vo1 out1 (W1.setCell ⟨go, 0, none⟩ vo1) := by
  obtain ⟨x0, x1, x2, hx, hh⟩ := F.blk
  have hx1 := blk_grown hx hG F.one_g
  have hoc := blk_grown F.oc hG F.one
  have hgl := F.gl
  have hwg : w.heap.size ≤ go := Nat.le_of_lt (Nat.lt_of_le_of_lt F.st.ge F.gl)
  refine ⟨⟨(F.st.hb.trans (hB.mono hwg)).setCell hwg _, F.st.ge, F.st.l3, x0, x1, x2, blk_far hx1 (show g ≠ go by omega) _, hh⟩, ?_, ?_, F.nb, F.n0, F.gl, F.gw, by simpa using blk_set hoc 0 vo1, ?_⟩
  · refine Kd.R_set (Kd.R_mono (Kd.R_grown (Kd.R_bound F.rn) hG ?_) (fun _ _ => trivial)) hoc (by decide) 0 vo1
    intro k hk he
    obtain ⟨_, _, _, q, hq, cells, hc⟩ := hk
    obtain ⟨cells2, hc2⟩ := Kd.N_typed F.on k he.symm
    rw [hc2] at hc
    injection hc with hc
    injection hc with _ hc
    rw [← hc] at hq
    exact absurd hq (by decide)
  · exact (Kept.of_grown hG F.kp (fun k hk => .inr (by have := (F.on.1 k hk).1; have := F.gw; omega))).setCell (.inr (by have := F.gw; show W0.heap.size ≤ go; omega)) _
  · exact Kd.N_far (p := ⟨go, 0, none⟩) hN (fun k hk => by have := hk.1; show k ≠ go; omega) _
end
end Go.Proofs.Ytlllbaieidbcdaa.Str
namespace Go.Proofs.Ytlllbaieidbcdaa.Str
open Go.RowKit Go.Proofs.Ytlllbaieidbcdaa Go.Proofs.Ytlllbaieidbcdaa.PParseEvents Go.Proofs.YtlllbaieidbcdaaW.PrintWords Go.Proofs.YtlllbaieidbcdaaW.PrintLast Go.Proofs.YtlllbaieidbcdaaW.PrintMore
set_option linter.unusedVariables false
set_option linter.unusedSimpArgs false
set_option maxRecDepth 100000 in
set_option maxHeartbeats 4000000 in
theorem Clone_int (A : Option Addr) (c : Nat) (l : List Int) (w : World) (hC : Kd.C (Kd.int .i64) w A l.length l) (hlen : l.length ≤ 1000000) :
    Calls Try.prog 21 #[.slice A l.length c] w fun r w' => ∃ v, r = .returned v ∧ Kd.R (Kd.int .i64) 3 w' w.heap.size (fun _ => True) v l ∧ Below w.heap.size w w' := by
  have HB := Aside0.mk (Below.refl w.heap.size w)
  rcases A with _ | ad
  · have hl0 : l = [] := by
      rcases Nat.eq_zero_or_pos l.length with h | h
      · exact List.eq_nil_of_length_eq_zero h
      · obtain ⟨ad, h', _⟩ := hC.2.2 h; cases h'
    have hq := Lib.run_eql_slice_nil (P := Try.prog) w 26 3 none l.length c 0 0 Try.underlying26
    have HL := Aside0.mk hl0
    clear hC hl0
    simp at hq
    go_enter Try.func21, Try.ntmps21
    go_wp2
    go_ret
    exact ⟨_, rfl, by rw [HL.out]; exact Kd.R_nil _ _ _ _ _, Below.refl _ _⟩
  · have hq := Lib.run_eql_slice_nil (P := Try.prog) w 26 3 (some ad) l.length c 0 0 Try.underlying26
    simp at hq
    have HC := Aside0.mk hC
    clear hC
    have HO := Aside0.mk (R_lit_int .i64 (W := w) w.heap.size 3 [] (Nat.le_refl _) (by simp))
    go_enter Try.func21, Try.ntmps21
    go_wp2_with (first | (at_builtin; refine Kd.R_append_rows (Kd.int .i64) (w0 := w) w.heap.size rfl (.tmp 5) (.tmp 6) 26 3 (.int .i64 0) 8 rfl Try.underlying26 info3p rfl (by decide) (by omega) _ ([] : List Int) l _ _ _ (fun _ => True) (fun _ => False) rfl rfl ?aO ?aR (fun _ _ h => h) (fun _ h => h.elim) (fun _ _ => trivial) ?aB ?aS ?aL ?_; (case aO => exact HO.out); (case aR => exact Kd.C_below HC.out (below_alloc (Below.refl _ _) _)); (case aB => exact (by repeat (first | (with_reducible first | exact HB.out | apply below_alloc | apply pw_below_drewN | apply below_drew1) | exact HB.out))); (case aS => simp); (case aL => simp; omega); intro vq wq ho hb hg hat; have HX := Aside0.mk (And.intro ho hb); clear ho hb hg hat))
    go_ret
    exact ⟨_, rfl, HX.out.1, HX.out.2⟩
section
variable {w W0 W W1 : World} {g go : Nat} {nv0 nv vo : Value} {p : PP} {out : List Evt}
set_option maxRecDepth 100000 in
set_option maxHeartbeats 4000000 in
theorem FS_tell (F : FS w W0 g go nv0 p nv vo out W) (A : Option Addr) (c : Nat) (l : List Evt) (okl : Nat → Prop) (hF : Kd.F kEv W okl A l.length l) (hok : ∀ k, okl k → (go < k ∧ some k ≠ nv.ownBlock) ∧ some k ≠ vo.ownBlock) (hl : out.length + l.length ≤ 1000000) :
    Calls Try.prog 22 #[.slice A l.length c, .pointer (some ⟨go, 0, none⟩)] W fun e w' => e = .returned (.tuple #[]) ∧ ∃ vo1, FS w W0 g go nv0 p nv vo1 (out ++ l) w' := by
  have hcell : W.cell? ⟨go, 0, none⟩ = some vo := (blk_cell F.oc 0).trans rfl
  have hfz := blk_frozen F.oc 0
  have HF := Aside0.mk F
  have HC := Aside0.mk hF
  have HL := Aside0.mk hl
  have HK := Aside0.mk hok
  have HFR := Aside0.mk (show ∀ k, W.heap.size ≤ k → go < k ∧ some k ≠ nv.ownBlock from fun k hk => ⟨Nat.lt_of_lt_of_le F.gs hk, fun h => by have := F.nlt k h.symm; omega⟩)
  clear F hF hl hok
  go_enter Try.func22, Try.ntmps22
  go_wp2_with (first | ((with_reducible refine gate_builtin (b := .append) (xs := #[.tmp 3, .tmp 4]) rfl ?_); go_must (at_builtin); go_must (refine Kd.N_append_rows kEv (w0 := W) go rfl (.tmp 3) (.tmp 4) 38 46 _ 40 rfl Try.underlying38 infoEv rfl (by decide) (by omega) vo out l A _ c (fun k => go < k ∧ some k ≠ nv.ownBlock) okl rfl rfl HF.out.on HC.out HK.out HFR.out (Below.refl _ _) (Nat.le_of_lt HF.out.gs) (by have := HL.out; omega) ?_); intro v4 w4 ho hb hg hat; obtain ⟨A4, c4, e4⟩ := Kd.N_slice ho; generalize (out ++ l).length = n4 at e4; subst e4; have HF4 := Aside0.mk (HF.out.told ho hb hg); have hx4 := blk_grown HF.out.oc hg HF.out.one; have hc4 : w4.cell? ⟨go, 0, none⟩ = some vo := (blk_cell hx4 0).trans rfl; have hf4 := blk_frozen hx4 0; clear ho hb hg hat hx4))
  go_end0
  exact ⟨rfl, _, HF4.out⟩
set_option maxRecDepth 100000 in
set_option maxHeartbeats 4000000 in
theorem FS_begun (F : FS w W0 g go nv0 p nv vo out W) (hn : p.n.length ≤ 1000000) :
    Calls Try.prog 36 #[.pointer (some ⟨g, 0, none⟩)] W fun e w' => e = .returned (.tuple #[]) ∧ ∃ nv1, FS w W0 g go nv0 ⟨p.st, p.n ++ [-1], p.h⟩ nv1 vo out w' := by
  obtain ⟨x0, x1, x2, hx, -⟩ := F.blk
  have hcell : W.cell? ⟨g, 5, none⟩ = some nv := (blk_cell hx 5).trans rfl
  have HX := Aside0.mk hx
  have HF := Aside0.mk F
  have HN := Aside0.mk hn
  clear F hn hx
  go_enter Try.func36, Try.ntmps36
  go_wp2_with (first | ((with_reducible refine gate_builtin (b := .append) (xs := #[.tmp 6, .tmp 7]) rfl ?_); go_must (at_builtin); go_must (refine Kd.R_append (Kd.int .i64) (w0 := w) w.heap.size rfl (.tmp 6) (.tmp 7) 26 3 (.int .i64 0) 8 rfl Try.underlying26 info3p rfl (by decide) (by omega) nv p.n (-1) [.int .i64 (-1)] (fun _ => True) (fun _ => False) rfl rfl rfl (fun _ h => h.elim) (fun _ _ => trivial) HF.out.rn HF.out.st.hb HF.out.st.hb.size (by have := HN.out; omega) ?_); intro v4 w4 ho hb hg hat; obtain ⟨A4, c4, e4⟩ := Kd.R_slice ho; generalize (p.n ++ [-1]).length = n4 at e4; subst e4; have HF4 := Aside0.mk (HF.out.nums ho hb hg (hat.imp_right .inr)); have hx4 := blk_grown HX.out hg HF.out.nne; have hc4 : w4.cell? ⟨g, 5, none⟩ = some nv := (blk_cell hx4 5).trans rfl; have hf4 := blk_frozen hx4 5; clear ho hb hg hat hx4))
  go_end0
  exact ⟨rfl, _, HF4.out⟩
end
end Go.Proofs.Ytlllbaieidbcdaa.Str
namespace Go.Proofs.Ytlllbaieidbcdaa.Str
open Go.RowKit Go.Proofs.Ytlllbaieidbcdaa Go.Proofs.Ytlllbaieidbcdaa.PParseEvents Go.Proofs.YtlllbaieidbcdaaW.PrintWords Go.Proofs.YtlllbaieidbcdaaW.PrintLast Go.Proofs.YtlllbaieidbcdaaW.PrintMore
set_option linter.unusedVariables false
set_option linter.unusedSimpArgs false
theorem set_last {n : List Int} {m : Nat} (h : n.length = m + 1) (y : Int) : n.set m y = n.dropLast ++ [y] := by
  have hne : n ≠ [] := by intro e; rw [e] at h; simp at h
  conv => lhs; rw [← List.dropLast_concat_getLast hne]
  rw [List.set_append_right _ _ (by rw [List.length_dropLast]; omega), List.length_dropLast, show m - (n.length - 1) = 0 by omega]
  rfl
theorem getLastD_rd {n : List Int} {m : Nat} (h : n.length = m + 1) : n.getLastD 0 = rd n (m : Int) := by
  have hne : n ≠ [] := by intro e; rw [e] at h; simp at h
  rw [List.getLastD_eq_getLast?, List.getLast?_eq_some_getLast hne, List.getLast_eq_getElem]
  simp only [rd, Int.toNat_natCast, Option.getD_some, List.getD_eq_getElem?_getD]
  rw [List.getElem?_eq_getElem (by omega), Option.getD_some]
  congr 1
  omega
section
variable {w W0 W W1 : World} {g go : Nat} {nv0 nv vo : Value} {p : PP} {out : List Evt}
theorem FS.putn {gn cap ln : Nat} (F : FS w W0 g go nv0 p (.slice (some ⟨gn, 0, none⟩) ln cap) vo out W) (m : Nat) (y : Int) :
    FS w W0 g go nv0 ⟨p.st, p.n.set m y, p.h⟩ (.slice (some ⟨gn, 0, none⟩) ln cap) vo out (W.setCell ⟨gn, m, none⟩ (.int .i64 y)) := by
  obtain ⟨x0, x1, x2, hx, hh⟩ := F.blk
  have ho : (Value.slice (some ⟨gn, 0, none⟩) ln cap).ownBlock = some gn := by simp [Value.ownBlock]
  have h1 : g ≠ gn := fun h => F.nne (by rw [ho, h])
  have h2 : go ≠ gn := fun h => F.nngo (by rw [ho, h])
  have hge : w.heap.size ≤ gn := Kd.R_base F.rn gn ho
  have hr := Kd.R_putn F.rn (m : Int) y
  rw [Int.toNat_natCast] at hr
  refine ⟨⟨F.st.hb.setCell hge _, F.st.ge, F.st.l3, x0, x1, x2, blk_far hx h1 _, hh⟩, hr, F.kp.setCell ?_ _, F.nb, F.n0, F.gl, F.gw, blk_far F.oc h2 _, ?_⟩
  · rcases F.nb gn ho with h | h
    · exact .inl (.inr h.symm)
    · exact .inr (by have := F.gw; show W0.heap.size ≤ gn; omega)
  · exact Kd.N_far (p := ⟨gn, m, none⟩) F.on (fun k hk h => hk.2 (by rw [ho]; exact congrArg some h)) _
theorem FS.form (F : FS w W0 g go nv0 p nv vo out W) {m : Nat} (hm : p.n.length = m + 1) : ∃ gn cap, nv = .slice (some ⟨gn, 0, none⟩) (m + 1) cap ∧ W.cell? ⟨gn, m, none⟩ = some (.int .i64 (p.n.getLastD 0)) ∧ W.frozen? ⟨gn, m, none⟩ = false := by
  obtain ⟨gn, cap, rfl, -, -, cells, hc⟩ := Kd.R_form F.rn (by omega)
  obtain ⟨A, c, e, -, hC⟩ := Kd.R_reads F.rn
  injection e with e1 e2 e3
  obtain ⟨ad, h1, h2⟩ := Kd.at_int hC (m : Int) (by omega) (by omega)
  rw [← e1] at h1
  injection h1 with h1
  subst h1
  rw [Int.toNat_natCast] at h2
  refine ⟨gn, cap, by rw [hm], ?_, blk_frozen hc m⟩
  rw [getLastD_rd hm, ← h2]
  congr 1
  cases m <;> simp [Addr.add]
set_option maxRecDepth 100000 in
set_option maxHeartbeats 4000000 in
theorem FS_count (F : FS w W0 g go nv0 p nv vo out W) (b : Int) (h0 : 0 ≤ b) (h255 : b ≤ 255) (h3 : p.st = 3) (hn : p.n.length ≤ 1000000) (hnb : ∀ x ∈ p.n, -1 ≤ x ∧ x ≤ 9999) :
    Calls Try.prog 26 #[.pointer (some ⟨g, 0, none⟩), .int .u8 b] W fun e w' => e = .returned (.bool (cntV p.n b).1) ∧ ∃ nv1, FS w W0 g go nv0 ⟨(cntV p.n b).2.1, (cntV p.n b).2.2, p.h⟩ nv1 vo out w' := by
  obtain ⟨x0, x1, x2, hx, -⟩ := F.blk
  have hc4 : W.cell? ⟨g, 4, none⟩ = some (.int .i64 p.st) := (blk_cell hx 4).trans rfl
  have hf4 := blk_frozen hx 4
  have hc5 : W.cell? ⟨g, 5, none⟩ = some nv := (blk_cell hx 5).trans rfl
  have HF := Aside0.mk F
  have HN := Aside0.mk hn
  obtain ⟨st, n, h⟩ := p
  dsimp only at *
  obtain rfl : st = 3 := h3
  by_cases c1 : 64 ≤ b
  · have hv : cntV n b = (true, 0, n) := by unfold cntV; rw [if_pos c1]
    have hT : decide (b ≥ 64) = true := decide_eq_true c1
    have HS := Aside0.mk (F.state 0)
    rw [hv]
    clear F hn hnb hx hv hc5
    go_enter Try.func26, Try.ntmps26
    go_wp2
    all_goals go_ret
    all_goals exact ⟨rfl, _, HS.out⟩
  have hT : decide (b ≥ 64) = false := decide_eq_false c1
  by_cases c2 : 48 ≤ b ∧ b < 58
  · have hv : cntV n b = (false, 3, digV n (b - 48)) := by unfold cntV; rw [if_neg c1, if_pos c2]
    have hT1 : decide (b ≥ 48) = true := decide_eq_true c2.1
    have hT2 : decide (b < 58) = true := decide_eq_true c2.2
    rw [hv]
    by_cases hne : n = []
    · have hv2 : digV n (b - 48) = [b - 48] := by unfold digV; rw [if_pos hne]
      rw [hv2]
      subst hne
      obtain ⟨A, c, rfl⟩ := Kd.R_slice F.rn
      clear F hn hnb hx hv hv2 hc4 hf4
      go_enter Try.func26, Try.ntmps26
      go_wp2_with (first | (go_at_call 36; go_must (refine (FS_begun HF.out (by simp)).mono ?_); rintro e w1 ⟨rfl, nv1, hF1⟩; obtain ⟨gn, cap, rfl, hcn, hfn⟩ := hF1.form (m := 0) rfl; obtain ⟨y0, y1, y2, hy, -⟩ := hF1.blk; have hd5 : w1.cell? ⟨g, 5, none⟩ = some (.slice (some ⟨gn, 0, none⟩) (0 + 1) cap) := (blk_cell hy 5).trans rfl; have HF1 := Aside0.mk hF1; clear hF1 hy))
      go_quiet (fail)
      go_wp2
      all_goals go_ret
      all_goals exact ⟨rfl, _, (HF1.out.below (pw_below_drewN (Below.refl _ _) nq)).putn 0 (b - 48)⟩
    · obtain ⟨m, hm⟩ : ∃ m, n.length = m + 1 := ⟨n.length - 1, by have := List.length_pos_iff.2 hne; omega⟩
      obtain ⟨x, hxe⟩ : ∃ x, n.getLastD 0 = x := ⟨_, rfl⟩
      have hxb : -1 ≤ x ∧ x ≤ 9999 := by rw [← hxe, getLastD_rd hm]; exact hnb _ (rd_in (by omega))
      obtain ⟨gn, cap, rfl, hcn, hfn⟩ := F.form hm
      dsimp only at hcn
      rw [hxe] at hcn
      have hwm : IntKind.i64.wrap (m : Int) = (m : Int) := by rw [i64_w, w64 (by omega) (by omega)]
      have hT3 : (((m + 1 : Nat) : Int) == 0) = false := by rw [beq_eq_false_iff_ne]; omega
      have hv2 : digV n (b - 48) = n.set m (min (10 * max x 0 + (b - 48)) 9999) := by unfold digV; rw [if_neg hne, hxe, set_last hm]
      rw [hv2]
      clear F hn hnb hx hv hv2 hc4 hf4 hne hxe
      go_enter Try.func26, Try.ntmps26
      go_wp2
      go_quiet (fail)
      go_wp2
      all_goals go_ret
      all_goals refine ⟨rfl, .slice (some ⟨gn, 0, none⟩) (m + 1) cap, ?_⟩
      all_goals first | (rw [show min (10 * max x 0 + (b - 48)) 9999 = b - 48 by omega]; exact (HF.out.below (pw_below_drewN (Below.refl _ _) nq)).putn m _) | (rw [show min (10 * max x 0 + (b - 48)) 9999 = 9999 by omega]; exact (HF.out.below (pw_below_drewN (Below.refl _ _) nq)).putn m _) | (rw [show min (10 * max x 0 + (b - 48)) 9999 = 10 * x + (b - 48) by omega]; exact (HF.out.below (pw_below_drewN (Below.refl _ _) nq)).putn m _)
  by_cases c3 : b = 59
  · subst c3
    have hv : cntV n 59 = (false, 3, (if n = [] then [-1] else n) ++ [-1]) := by unfold cntV; rw [if_neg c1, if_neg c2, if_pos rfl]
    have hT1 : decide ((59 : Int) ≥ 48) = true := rfl
    have hT2 : decide ((59 : Int) < 58) = false := rfl
    rw [hv]
    by_cases hne : n = []
    · subst hne
      rw [if_pos rfl]
      obtain ⟨A, c, rfl⟩ := Kd.R_slice F.rn
      clear F hn hnb hx hv hc4 hf4
      go_enter Try.func26, Try.ntmps26
      go_wp2_with (first | (go_at_call 36; (with_reducible refine (FS_begun HF.out (by simp)).mono ?_); rintro e w1 ⟨rfl, nv1, hF1⟩; have HF1 := Aside0.mk hF1; clear hF1) | (go_at_call 36; go_must (refine (FS_begun HF1.out (by simp)).mono ?_); rintro e w2 ⟨rfl, nv2, hF2⟩; have HF2 := Aside0.mk hF2; clear hF2))
      all_goals go_ret
      all_goals exact ⟨rfl, _, HF2.out⟩
    · rw [if_neg hne]
      have hpos := List.length_pos_iff.2 hne
      obtain ⟨A, c, rfl⟩ := Kd.R_slice F.rn
      have hT3 : ((n.length : Int) == 0) = false := by rw [beq_eq_false_iff_ne]; omega
      clear F hn hnb hx hv hc4 hf4 hne hpos
      go_enter Try.func26, Try.ntmps26
      go_wp2_with (first | (go_at_call 36; go_must (refine (FS_begun HF.out HN.out).mono ?_); rintro e w1 ⟨rfl, nv1, hF1⟩; have HF1 := Aside0.mk hF1; clear hF1))
      all_goals go_ret
      all_goals exact ⟨rfl, _, HF1.out⟩
  · have hv : cntV n b = (false, 4, n) := by unfold cntV; rw [if_neg c1, if_neg c2, if_neg c3]
    have hT4 : (b == 59) = false := by rw [beq_eq_false_iff_ne]; exact c3
    have HS := Aside0.mk (F.state 4)
    rw [hv]
    by_cases c4 : 48 ≤ b
    · have hT1 : decide (b ≥ 48) = true := decide_eq_true c4
      have hT2 : decide (b < 58) = false := decide_eq_false (by omega)
      clear F hn hnb hx hv hc5
      go_enter Try.func26, Try.ntmps26
      go_wp2
      all_goals go_ret
      all_goals exact ⟨rfl, _, HS.out⟩
    · have hT1 : decide (b ≥ 48) = false := decide_eq_false c4
      clear F hn hnb hx hv hc5
      go_enter Try.func26, Try.ntmps26
      go_wp2
      all_goals go_ret
      all_goals exact ⟨rfl, _, HS.out⟩
end
end Go.Proofs.Ytlllbaieidbcdaa.Str
namespace Go.Proofs.Ytlllbaieidbcdaa.Str
open Go.RowKit Go.Proofs.Ytlllbaieidbcdaa Go.Proofs.Ytlllbaieidbcdaa.PParseEvents Go.Proofs.YtlllbaieidbcdaaW.PrintWords Go.Proofs.YtlllbaieidbcdaaW.PrintLast Go.Proofs.YtlllbaieidbcdaaW.PrintMore
set_option linter.unusedVariables false
set_option linter.unusedSimpArgs false
section
variable {P : Program} {Q : Exit → Act → World → Prop} {ops : Array Oper}
/-- A call of a function value that captures, within a region that draws its order. -/
theorem goesV_ {oi : Oper} {N : Option Tmp} {a : Act} {w : World} {K : Act → World → Prop} {f : FuncId} {fn : Func} {os : Array Operand} {ts : Array TypeId} {x : Operand} {cap : Array Value} (hf : P.funcs[f]? = some fn) (hname : (fn.name == "runtime.NumGoroutine") = false) (hb : fn.body.isSome = true) (args : Array Value)
    (hw : Region.wanted oi (yielded ops a.tmps) = true) (hN : oi.dst = N) (hop : oi.op = .call { callee := .value x, args := os, argTypes := ts }) (hx : a.eval x = .func (.func f) #[] cap) (hargs : os.map a.eval ++ cap = args)
    (h : Calls P f args w fun e w' => ∃ v, e = .returned v ∧ K (a.put N v) w') : if Region.wanted oi (yielded ops a.tmps) = true then Oper.wp P oi a w K Q else K (a.put N undef) w := by
  refine call_ f args hw hN ?_ h
  have he := enters_ hf hname hb args w
  unfold execOp
  simp only [hop, resolve, hx, Deferred.ofValue, invoke, he]
  simp [hargs, he]
end
theorem printed_l (l : List Int) (hl : l.length ≤ 1000000) : ∀ (d i k : Nat) (out : List Evt), i + d = l.length → out.length + d ≤ 1000000 → d < k → parse_printed.l0 k out l (l.length : Int) (i : Int) = some (out ++ prV (l.drop i)) := by
  intro d
  induction d with
  | zero =>
    intro i k out hi ho hk
    obtain ⟨k, rfl⟩ := kp hk
    rw [parse_printed.l0, if_neg (by omega), List.drop_of_length_le (by omega)]
    simp [prV]
  | succ d ih =>
    intro i k out hi ho hk
    obtain ⟨k, rfl⟩ := kp hk
    rw [parse_printed.l0, if_pos (by omega), if_pos (by omega), if_pos (by omega), if_pos (by omega), w64 (by omega) (by omega), cast1, ih (i + 1) k _ (by omega) (by rw [List.length_append, List.length_singleton]; omega) (by omega), drop_rd (show i < l.length by omega)]
    simp [prV]
theorem printed_ok (l : List Int) (hl : l.length ≤ 1000000) : parse_printed.f 1000002 l = some (prV l) := by
  unfold parse_printed.f
  have := printed_l l hl l.length 0 1000002 [] (by omega) (by simp; omega) (by omega)
  simpa using this
theorem blk_old (w : World) (o : Obj) {k : Nat} (h : k < w.heap.size) : (w.alloc o).heap[k]? = w.heap[k]? := Below.heap_alloc w o k h
/-- One event, just made. -/
theorem evLit (W : World) (kd r : Int) (A : Option Addr) (c : Nat) (n : List Int) (okn : Nat → Prop) (hF : Kd.F (Kd.int .i64) W okn A n.length n) (hc : n.length ≤ c) :
    Kd.F kEv (W.alloc (.cells #[.int .i64 kd, .int .i32 r, .slice A n.length c] 46)) (fun j => j = W.heap.size ∨ (okn j ∧ j < W.heap.size)) (some ⟨W.heap.size, 0, none⟩) 1 [(⟨kd, r, n⟩ : Evt)] := by
  intro W' hW
  have hb := (hW W.heap.size (.inl rfl) (by show _ < (W.heap.push _).size; simp)).trans (blk_new W _)
  have hn : Kd.C (Kd.int .i64) W' A n.length n := hF W' (fun k hk hlt => (hW k (.inr ⟨hk, hlt⟩) (Nat.lt_of_lt_of_le hlt (by show _ ≤ (W.heap.push _).size; simp))).trans (blk_old W _ hlt))
  refine ⟨rfl, by omega, fun _ => ⟨_, rfl, fun j p hp => ?_⟩⟩
  have hj : j = 0 := by have := (List.getElem?_eq_some_iff.1 hp).1; simp at this; omega
  subst hj
  obtain rfl : (⟨kd, r, n⟩ : Evt) = p := by simpa using hp
  refine ⟨_, rfl, k46_mk W' _ (by exact hc) hn, fun i u hu => ?_⟩
  have e : (⟨W.heap.size, 0, none⟩ : Addr).add (0 * kEv.sz + i) = ⟨W.heap.size, i, none⟩ := by
    rw [Nat.zero_mul, Nat.zero_add]
    cases i <;> simp [Addr.add]
  rw [e, blk_cell hb i]
  have := hu
  match i with
  | 0 => simpa using this
  | 1 => simpa using this
  | 2 => simpa using this
  | i + 3 => simp at this
section
variable {w W0 W W1 : World} {g go : Nat} {nv0 nv vo : Value} {p : PP} {out : List Evt}
theorem FS.freshOk (F : FS w W0 g go nv0 p nv vo out W) : ∀ k, W.heap.size ≤ k → (go < k ∧ some k ≠ nv.ownBlock) ∧ some k ≠ vo.ownBlock := fun k hk =>
  ⟨⟨Nat.lt_of_lt_of_le F.gs hk, fun h => by have := F.nlt k h.symm; omega⟩, fun h => by have := Kd.N_lt F.on k h.symm; omega⟩
theorem FS_flush (F : FS w W0 g go nv0 p nv vo out W) {r : List Int} (hr : (if p.h = [] then [] else [65533]) = r) :
    Calls Try.prog 24 #[.pointer (some ⟨g, 0, none⟩)] W fun e w' => ∃ A c, e = .returned (.slice A r.length c) ∧ r.length ≤ c ∧ Kd.C (Kd.int .i32) w' A r.length r ∧ FS w W0 g go nv0 ⟨p.st, p.n, []⟩ nv vo out w' := by
  refine (Flush_any w W g p.h r F.st hr).mono ?_
  rintro e w' ⟨v, rfl, hR, hS, hG⟩
  obtain ⟨A, c, rfl, hc, hC⟩ := Kd.R_reads hR
  exact ⟨A, c, rfl, hc, hC, F.grown hG (q := ⟨p.st, p.n, []⟩) rfl hS⟩
theorem FS_sfeed (F : FS w W0 g go nv0 p nv vo out W) (A : Option Addr) (c : Nat) (x : Int) (hx : 0 ≤ x ∧ x ≤ 255) (hh : In8u p.h) (hC : Kd.C (Kd.int .u8) W A 1 [x]) (hc : 1 ≤ c) {sc hl : List Int} (hcut : cutZ (p.h ++ [x]) = (sc, hl)) :
    Calls Try.prog 25 #[.pointer (some ⟨g, 0, none⟩), .slice A 1 c] W fun e w' => ∃ A c, e = .returned (.slice A sc.length c) ∧ sc.length ≤ c ∧ Kd.C (Kd.int .i32) w' A sc.length sc ∧ FS w W0 g go nv0 ⟨p.st, p.n, hl⟩ nv vo out w' := by
  refine (Feed_any w W g p.h A c [x] sc hl F.st hC hc (fun y hy => (List.mem_append.1 hy).elim (hh y) (fun hy => by rw [List.mem_singleton.1 hy]; omega)) (by simp) hcut).mono ?_
  rintro e w' ⟨v, rfl, hR, hS, hG⟩
  obtain ⟨A, c, rfl, hc, hC⟩ := Kd.R_reads hR
  exact ⟨A, c, rfl, hc, hC, F.grown hG (q := ⟨p.st, p.n, hl⟩) rfl hS⟩
theorem FS_printed (F : FS w W0 g go nv0 p nv vo out W) (A : Option Addr) (c : Nat) (l : List Int) (hC : Kd.C (Kd.int .i32) W A l.length l) (hc : l.length ≤ c) (hl : l.length ≤ 1000000) :
    Calls Try.prog 23 #[.slice A l.length c] W fun e w' => ∃ A c, e = .returned (.slice A (prV l).length c) ∧ Kd.F kEv w' (fun k => W.heap.size ≤ k) A (prV l).length (prV l) ∧ FS w W0 g go nv0 p nv vo out w' := by
  refine (parse_printed.calls 1000002 A c l (prV l) W hC hc (printed_ok l hl)).mono ?_
  rintro e w' ⟨v, rfl, hS, hb⟩
  obtain ⟨A, c, rfl, -, -⟩ := Kd.R_reads (Kd.S_R hS)
  exact ⟨A, c, rfl, Kd.F_mono (Kd.S_F (Kd.S_bound hS)) (fun k hk => hk.2.1), F.below hb⟩
end
end Go.Proofs.Ytlllbaieidbcdaa.Str
