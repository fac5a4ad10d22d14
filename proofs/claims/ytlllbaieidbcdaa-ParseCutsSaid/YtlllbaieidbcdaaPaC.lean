/- parse.Parser: the world of Feed, and what its parts do. -/
import Derived.Test.YtlllbaieidbcdaaPaB
import Derived.Test.YtlllbaieidbcdaaPaP
import Derived.Test.YtlllbaieidbcdaaWNEv
namespace Go.Proofs.Ytlllbaieidbcdaa.Str
open Go.RowKit Go.Proofs.Ytlllbaieidbcdaa Go.Proofs.Ytlllbaieidbcdaa.PParseEvents Go.Proofs.YtlllbaieidbcdaaW.PrintWords Go.Proofs.YtlllbaieidbcdaaW.PrintLast Go.Proofs.YtlllbaieidbcdaaW.PrintMore
set_option linter.unusedVariables false
set_option linter.unusedSimpArgs false
abbrev kEv := k46
abbrev tEv : Nat := 46
theorem infoEv : (Try.prog.info? 46).map (fun i => (i.zero, i.size, i.bytes)) = some (some (.agg #[.int .i64 0, .int .i32 0, .slice none 0 0]), 3, 40) := by kernel_rfl
theorem info3p : (Try.prog.info? 3).map (fun i => (i.zero, i.size, i.bytes)) = some (some (.int .i64 0), 1, 8) := by kernel_rfl
/-- A parser stands at g, within Feed: what is told is out, in the variable go. -/
structure FS (w W0 : World) (g go : Nat) (nv0 : Value) (p : PP) (nv vo : Value) (out : List Evt) (W : World) : Prop where
  st : StS p.st nv w W g p.h
  rn : Kd.R (Kd.int .i64) 3 W w.heap.size (fun _ => True) nv p.n
  kp : Kept W0 W (fun k => k = g ∨ some k = nv0.ownBlock)
  nb : ∀ k, nv.ownBlock = some k → nv0.ownBlock = some k ∨ go < k
  n0 : ∀ k, nv0.ownBlock = some k → k < go
  gl : g < go
  gw : go = W0.heap.size
  oc : W.heap[go]? = some (.cells #[vo] 38 (0, 0))
  on : Kd.N kEv 46 W go (fun k => go < k ∧ some k ≠ nv.ownBlock) vo out
section
variable {w W0 W W1 : World} {g go : Nat} {nv0 nv vo : Value} {p : PP} {out : List Evt}
theorem FS.gs (F : FS w W0 g go nv0 p nv vo out W) : go < W.heap.size := blk_lt F.oc
theorem FS.blk (F : FS w W0 g go nv0 p nv vo out W) : ∃ x0 x1 x2 : Int, W.heap[g]? = some (.cells #[.int .u8 x0, .int .u8 x1, .int .u8 x2, .int .i64 p.h.length, .int .i64 p.st, nv] 28 (0, 0)) ∧ p.h = [x0, x1, x2].take p.h.length := F.st.hx
theorem FS.nne (F : FS w W0 g go nv0 p nv vo out W) : some g ≠ nv.ownBlock := by
  obtain ⟨x0, x1, x2, hx, -⟩ := F.blk
  exact Kd.R_ne F.rn hx (by decide)
theorem FS.nngo (F : FS w W0 g go nv0 p nv vo out W) : some go ≠ nv.ownBlock := Kd.R_ne F.rn F.oc (by decide)
theorem FS.nlt (F : FS w W0 g go nv0 p nv vo out W) : ∀ k, nv.ownBlock = some k → k < W.heap.size := Kd.R_lt F.rn
theorem FS.one (F : FS w W0 g go nv0 p nv vo out W) : some go ≠ vo.ownBlock := Kd.N_ne F.on F.oc (by decide)
theorem FS.one_g (F : FS w W0 g go nv0 p nv vo out W) : some g ≠ vo.ownBlock := fun h => by have := (F.on.1 g h.symm).1; have := F.gl; omega
/-- The stream's part has changed, or the state. -/
theorem FS.grown (F : FS w W0 g go nv0 p nv vo out W) (hG : W.grownBy W1 (some g)) {q : PP} (hq : q.n = p.n) (hS : StS q.st nv w W1 g q.h) : FS w W0 g go nv0 q nv vo out W1 := by
  obtain ⟨x0, x1, x2, hx, -⟩ := F.blk
  refine ⟨hS, ?_, Kept.of_grown hG F.kp (fun k hk => by injection hk with hk; exact .inl (.inl hk.symm)), F.nb, F.n0, F.gl, F.gw, blk_grown F.oc hG (fun h => by injection h with h; have := F.gl; omega), ?_⟩
  · rw [hq]
    exact Kd.R_mono (Kd.R_grown (Kd.R_types F.rn hx (by decide)) hG (fun k hk h => by injection h with h; exact hk.2 h)) (fun _ _ => trivial)
  · exact Kd.N_grown F.on hG (fun k hk h => by injection h with h; have := F.gl; have := hk.1; omega)
theorem FS.below (F : FS w W0 g go nv0 p nv vo out W) (hb : Below W.heap.size W W1) : FS w W0 g go nv0 p nv vo out W1 := by
  obtain ⟨x0, x1, x2, hx, hh⟩ := F.blk
  exact ⟨⟨below_then F.st.hb F.st.hb.size hb, F.st.ge, F.st.l3, x0, x1, x2, blk_below hx hb, hh⟩, Kd.R_below F.rn hb, F.kp.below hb, F.nb, F.n0, F.gl, F.gw, blk_below F.oc hb, Kd.N_below F.on hb⟩
/-- The state is set. -/
theorem FS.state (F : FS w W0 g go nv0 p nv vo out W) (s : Int) : FS w W0 g go nv0 ⟨s, p.n, p.h⟩ nv vo out (W.setCell ⟨g, 4, none⟩ (.int .i64 s)) := by
  obtain ⟨x0, x1, x2, hx, hh⟩ := F.blk
  refine F.grown (grown_set (grown_refl _ _) 4 _) rfl ⟨F.st.hb.setCell F.st.ge _, F.st.ge, F.st.l3, x0, x1, x2, ?_, hh⟩
  simpa using blk_set hx 4 (.int .i64 s)
/-- The numbers are a row of another. -/
theorem FS.nums (F : FS w W0 g go nv0 p nv vo out W) {nv1 : Value} {n1 : List Int} (hR : Kd.R (Kd.int .i64) 3 W1 w.heap.size (fun _ => True) nv1 n1) (hB : Below w.heap.size w W1) (hG : W.grownBy W1 nv.ownBlock) (hat : nv1.ownBlock = nv.ownBlock ∨ nv1.ownBlock = none ∨ ∃ b, nv1.ownBlock = some b ∧ W.heap.size ≤ b) :
    FS w W0 g go nv0 ⟨p.st, n1, p.h⟩ nv1 vo out (W1.setCell ⟨g, 5, none⟩ nv1) := by
  obtain ⟨x0, x1, x2, hx, hh⟩ := F.blk
  have hx1 := blk_grown hx hG F.nne
  have hgs := F.gs
  have hnl := F.nlt
  refine ⟨⟨hB.setCell F.st.ge _, F.st.ge, F.st.l3, x0, x1, x2, by simpa using blk_set hx1 5 nv1, hh⟩, ?_, ?_, ?_, F.n0, F.gl, F.gw, blk_far (blk_grown F.oc hG F.nngo) (show go ≠ g by have := F.gl; omega) _, ?_⟩
  · exact Kd.R_set hR hx1 (by decide) 5 nv1
  · refine (Kept.of_grown hG F.kp (fun k hk => ?_)).setCell (.inl (.inl rfl)) _
    rcases F.nb k hk with h | h
    · exact .inl (.inr h.symm)
    · exact .inr (by have := F.gw; omega)
  · intro k hk
    rcases hat with h | h | ⟨b, hb, hle⟩
    · exact F.nb k (h ▸ hk)
    · rw [h] at hk; cases hk
    · rw [hb] at hk; injection hk with hk; exact .inr (by omega)
  · refine Kd.N_far (p := ⟨g, 5, none⟩) (Kd.N_mono (Kd.N_grown (Kd.N_bound F.on) hG (fun k hk => hk.1.2)) (fun k hk => ⟨hk.1.1, ?_⟩)) (fun k hk => by have := F.gl; have := hk.1; show k ≠ g; omega) _
    rcases hat with h | h | ⟨b, hb, hle⟩
    · rw [h]; exact hk.1.2
    · rw [h]; simp
    · rw [hb]; intro he; injection he with he; have := hk.2; omega
/-- What was told is a row of another. -/
theorem FS.told (F : FS w W0 g go nv0 p nv vo out W) {vo1 : Value} {out1 : List Evt} (hN : Kd.N kEv 46 W1 go (fun k => go < k ∧ some k ≠ nv.ownBlock) vo1 out1) (hB : Below go W W1) (hG : W.grownBy W1 vo.ownBlock) :
    FS w W0 g go nv0 p nv vo1 out1 (W1.setCell ⟨go, 0, none⟩ vo1) := by
  obtain ⟨x0, x1, x2, hx, hh⟩ := F.blk
  have hx1 := blk_grown hx hG F.one_g
  have hoc := blk_grown F.oc hG F.one
  have hgl := F.gl
  have hwg : w.heap.size ≤ go := Nat.le_of_lt (Nat.lt_of_le_of_lt F.st.ge F.gl)
  refine ⟨⟨(F.st.hb.trans (hB.mono hwg)).setCell hwg _, F.st.ge, F.st.l3, x0, x1, x2, blk_far hx1 (show g ≠ go by omega) _, hh⟩, ?_, ?_, F.nb, F.n0, F.gl, F.gw, by simpa using blk_set hoc 0 vo1, ?_⟩
  · refine Kd.R_set (Kd.R_mono (Kd.R_grown (Kd.R_bound F.rn) hG ?_) (fun _ _ => trivial)) hoc (by decide) 0 vo1
    intro k hk he
    obtain ⟨_, _, _, q, hq, cells, hc⟩ := hk
    obtain ⟨cells2, hc2⟩ := Kd.N_typed F.on k he.symm
    rw [hc2] at hc
    injection hc with hc
    injection hc with _ hc
    rw [← hc] at hq
    exact absurd hq (by decide)
  · exact (Kept.of_grown hG F.kp (fun k hk => .inr (by have := (F.on.1 k hk).1; have := F.gw; omega))).setCell (.inr (by have := F.gw; show W0.heap.size ≤ go; omega)) _
  · exact Kd.N_far (p := ⟨go, 0, none⟩) hN (fun k hk => by have := hk.1; show k ≠ go; omega) _
end
end Go.Proofs.Ytlllbaieidbcdaa.Str
