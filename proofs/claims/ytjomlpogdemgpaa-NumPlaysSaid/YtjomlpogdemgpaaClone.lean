/- slices.Clone of bytes. -/
import Derived.Test.YtjomlpogdemgpaaNumS
import Derived.Lib.SliceRun
namespace Go.Proofs.Ytjomlpogdemgpaa
open Go.RowKit Go.Proofs.YtjomlpogdemgpaaW.PrintWords Go.Proofs.YtjomlpogdemgpaaW.PrintLast Go.Proofs.YtjomlpogdemgpaaW.PrintMore
set_option linter.unusedVariables false
set_option linter.unusedSimpArgs false

/-- A literal row of the call's own. -/
theorem R_lit0 {α : Type} (d : Kd α) {W : World} (base e : Nat) {xs : List α} {inner : List Value} {ok okp : Nat → Prop} (hrep : Reps (d.M W base okp) d.sz xs inner) (hok : ∀ k, okp k → ok k) (hfresh : ok W.heap.size) (hbase : base ≤ W.heap.size) (hm : xs.length ≤ 9223372036854775807) (hlt : ∀ k, okp k → k < W.heap.size) :
    d.R e (W.alloc (.cells inner.toArray e)) base ok (.slice (some ⟨W.heap.size, 0, none⟩) xs.length xs.length) xs := by
  refine ⟨fun k hk => ?_, inner, ?_, ?_⟩
  · have : W.heap.size = k := by simpa [Value.ownBlock] using hk
    subst this
    exact hfresh
  · have h := World.ownsRow_lit (base := base) (e := e) (size := d.sz) W inner.toArray xs.length hbase (by simpa [maxLen] using hm) (by simpa using hrep.1)
    simpa using h
  · refine hrep.imp_ fun p c hp => ?_
    refine d.M_mono (fun k hk => ⟨hok k hk, ?_⟩) (Kd.M_alloc hp _)
    have := hlt k hk
    simp [Value.ownBlock]
    omega

theorem R_lit_int (k : IntKind) {W : World} (base e : Nat) (xs : List Int) (hbase : base ≤ W.heap.size) (hm : xs.length ≤ 9223372036854775807) :
    (Kd.int k).R e (W.alloc (.cells (nums k xs).toArray e)) base (fun _ => True) (.slice (some ⟨W.heap.size, 0, none⟩) xs.length xs.length) xs := by
  refine R_lit0 (Kd.int k) base e (okp := fun _ => False) ⟨by rw [nums_length]; simp [Kd.int, Kd.scalar], fun j p hj => ?_⟩ (fun _ h => h.elim) trivial hbase hm (fun _ h => h.elim)
  obtain ⟨hl, hp⟩ := List.getElem?_eq_some_iff.1 hj
  have hl' : j < (nums k xs).length := by rw [nums_length]; exact hl
  show _ = _
  simp only [Kd.int, Kd.scalar, Nat.mul_one]
  rw [List.drop_eq_getElem_cons hl']
  simp [nums, hp]

theorem R_lit_at (k : IntKind) {W : World} (base e g : Nat) (xs : List Int) (hg : g = W.heap.size) (hbase : base ≤ W.heap.size) (hm : xs.length ≤ 9223372036854775807) :
    (Kd.int k).R e (W.alloc (.cells (nums k xs).toArray e)) base (fun _ => True) (.slice (some ⟨g, 0, none⟩) xs.length xs.length) xs := by
  subst hg
  exact R_lit_int k base e xs hbase hm

set_option maxRecDepth 100000 in
set_option maxHeartbeats 400000 in
theorem Clone8_any (A : Option Addr) (c : Nat) (l : List Int) (w : World) (hC : Kd.C (Kd.int .u8) w A l.length l) (hlen : l.length ≤ 140737488355328) :
    Calls Try.prog 59 #[.slice A l.length c] w fun r w' => ∃ v, r = .returned v ∧ Kd.R (Kd.int .u8) 5 w' w.heap.size (fun _ => True) v l ∧ Below w.heap.size w w' := by
  have HB := Aside0.mk (Below.refl w.heap.size w)
  rcases A with _ | ad
  · have hl0 : l = [] := by
      rcases Nat.eq_zero_or_pos l.length with h | h
      · exact List.eq_nil_of_length_eq_zero h
      · obtain ⟨ad, h', _⟩ := hC.2.2 h; cases h'
    have hq := Lib.run_eql_slice_nil (P := Try.prog) w 29 5 none l.length c 0 0 Try.underlying29
    have HL := Aside0.mk hl0
    clear hC hl0
    simp at hq
    go_enter Try.func59, Try.ntmps59
    go_wp2
    go_ret
    exact ⟨_, rfl, by rw [HL.out]; exact Kd.R_nil _ _ _ _ _, Below.refl _ _⟩
  · have hq := Lib.run_eql_slice_nil (P := Try.prog) w 29 5 (some ad) l.length c 0 0 Try.underlying29
    simp at hq
    have HC := Aside0.mk hC
    clear hC
    have HO := Aside0.mk (R_lit_int .u8 (W := w) w.heap.size 5 [] (Nat.le_refl _) (by simp))
    go_enter Try.func59, Try.ntmps59
    go_wp2_with (first | (at_builtin; refine Kd.R_append_rows (Kd.int .u8) (w0 := w) w.heap.size rfl (.tmp 5) (.tmp 6) 29 5 (.int .u8 0) 1 rfl Try.underlying29 info5 rfl (by decide) (by omega) _ ([] : List Int) l _ _ _ (fun _ => True) (fun _ => False) rfl rfl ?aO ?aR (fun _ _ h => h) (fun _ h => h.elim) (fun _ _ => trivial) ?aB ?aS ?aL ?_; (case aO => exact HO.out); (case aR => exact C_below0 HC.out (below_alloc (Below.refl _ _) _)); (case aB => exact (by repeat (first | (with_reducible first | exact HB.out | apply below_alloc | apply pw_below_drewN | apply below_drew1) | exact HB.out))); (case aS => simp); (case aL => simp; omega); intro vq wq ho hb hg hat; have HX := Aside0.mk (And.intro ho hb); clear ho hb hg hat))
    go_ret
    exact ⟨_, rfl, HX.out.1, HX.out.2⟩
end Go.Proofs.Ytjomlpogdemgpaa
