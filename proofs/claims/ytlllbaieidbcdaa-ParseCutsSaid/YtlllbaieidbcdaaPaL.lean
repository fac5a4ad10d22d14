/- parse.Parser: as a law sees it. -/
import Derived.Test.YtlllbaieidbcdaaPaK
namespace Go.Proofs.Ytlllbaieidbcdaa.Str
open Go.RowKit Go.Proofs.Ytlllbaieidbcdaa Go.Proofs.Ytlllbaieidbcdaa.PParseEvents Go.Proofs.YtlllbaieidbcdaaW.PrintWords Go.Proofs.YtlllbaieidbcdaaW.PrintLast Go.Proofs.YtlllbaieidbcdaaW.PrintMore
set_option linter.unusedVariables false
set_option linter.unusedSimpArgs false
theorem cut_small8 (l : List Int) (h8 : In8u l) : ∀ x ∈ (cutZ l).1, -2147483648 ≤ x ∧ x ≤ 2147483647 := by
  intro x hx
  have := runes_scalar l.length l (Nat.le_refl _) h8 x (by rw [cutZ_runes]; exact List.mem_append_left _ hx)
  have := (scalar_iff x).1 this
  omega
theorem small_app {a b : List Evt} {M : Nat} (ha : smallEv a M) (hb : smallEv b M) : smallEv (a ++ b) M := fun x hx => (List.mem_append.1 hx).elim (ha x) (hb x)
theorem small_nil (M : Nat) : smallEv [] M := fun x hx => by simp at hx
theorem flushV_small (h : List Int) : smallEv (flushV h) 8 := by
  unfold flushV
  split
  · exact small_nil _
  · intro x hx
    rw [List.mem_singleton.1 hx]
    simp
theorem prV_small {l : List Int} (h : ∀ x ∈ l, -2147483648 ≤ x ∧ x ≤ 2147483647) : smallEv (prV l) 8 := by
  intro x hx
  obtain ⟨r, hr, rfl⟩ := List.mem_map.1 hx
  exact ⟨h r hr, by simp⟩
theorem step_small {p : PP} {m : Nat} (h : p.ok m) {b : Int} (h0 : 0 ≤ b) (h1 : b ≤ 255) : smallEv (stepV p b).2 8 := by
  have hc8 : In8u (p.h ++ [b]) := fun x hx => (List.mem_append.1 hx).elim (h.h8 x) (fun hx => by rw [List.mem_singleton.1 hx]; omega)
  unfold stepV
  split
  · split
    · exact flushV_small _
    · refine small_app (flushV_small _) (fun x hx => ?_)
      rw [List.mem_singleton.1 hx]
      exact ⟨by dsimp only; omega, by simp⟩
  · split
    · exact prV_small (cut_small8 _ hc8)
    · split
      · exact small_nil _
      · split
        · dsimp only
          split
          · intro x hx
            rw [List.mem_singleton.1 hx]
            exact ⟨by dsimp only; omega, by dsimp only; rw [List.length_take]; omega⟩
          · exact small_nil _
        · exact small_nil _
theorem feed_small : ∀ (l : List Int) {p : PP} {m : Nat}, p.ok m → In8u l → smallEv (feedV p l).2 8 := by
  intro l
  induction l with
  | nil => intro p m h _; exact small_nil _
  | cons b t ih =>
    intro p m h h8
    have hb := h8 b (by simp)
    rw [feedV]
    exact small_app (step_small h hb.1 hb.2) (ih (step_ok h (b := b) (by omega) (by omega)) (fun x hx => h8 x (by simp [hx])))
theorem all_small (l : List Int) (h8 : In8u l) : smallEv (allV l) 8 := small_app (feed_small l pp0_ok h8) (flushV_small _)
theorem all_len (l : List Int) (h8 : In8u l) : (allV l).length ≤ 4 * l.length + 1 := by
  have := feed_len l pp0_ok h8
  have := flushV_len (feedV ⟨0, [], []⟩ l).1.h
  unfold allV
  rw [List.length_append]
  omega
/-- A parser at g, and what it told so far in a row of the law's own. -/
structure LE (w W : World) (g : Nat) (p : PP) (nv v : Value) (out : List Evt) : Prop where
  pw : PW w W g p nv
  on : Kd.N kEv 46 W (g + 1) (fun k => g < k ∧ some k ≠ nv.ownBlock) v out
section
variable {w W W1 : World} {g : Nat} {nv v : Value} {p : PP} {out : List Evt}
theorem LE.gs (L : LE w W g p nv v out) : g < W.heap.size := by
  obtain ⟨x0, x1, x2, hx, -⟩ := L.pw.blk
  exact blk_lt hx
theorem LE.below (L : LE w W g p nv v out) (hb : Below W.heap.size W W1) : LE w W1 g p nv v out := ⟨L.pw.below hb, Kd.N_below L.on hb⟩
theorem LE.hb (L : LE w W g p nv v out) : Below w.heap.size w W := L.pw.st.hb
theorem LE.app (L : LE w W g p nv v out) {v1 : Value} {out1 : List Evt} (ho : Kd.N kEv 46 W1 (g + 1) (fun k => g < k ∧ some k ≠ nv.ownBlock) v1 out1) (hb : Below (g + 1) W W1) (hg : W.grownBy W1 v.ownBlock) : LE w W1 g p nv v1 out1 := by
  refine ⟨L.pw.kept (S := fun k => some k = v.ownBlock) ⟨hg.size, fun i hi hn => hg.block i hi hn⟩ (L.pw.st.hb.trans (hb.mono (by have := L.pw.st.ge; omega))) (fun h => ?_) (fun k hk h => ?_), ho⟩
  · have := (L.on.1 g h.symm).1; omega
  · exact (L.on.1 k h.symm).2 hk.symm
theorem LE.reads (L : LE w W g p nv v out) : ∃ A c, v = .slice A out.length c ∧ out.length ≤ c ∧ Kd.C kEv W A out.length out := Kd.N_reads L.on
theorem LE_feed (L : LE w W g p nv v out) (m : Nat) (A : Option Addr) (c : Nat) (b : List Int) (hp : p.ok m) (hm : m + b.length ≤ 10000) (hC : Kd.C (Kd.int .u8) w A b.length b) (h8 : In8u b) {q : PP} {E : List Evt} (hf : feedV p b = (q, E)) :
    Calls Try.prog 9 #[.pointer (some ⟨g, 0, none⟩), .slice A b.length c] W fun e w' => ∃ A2 c2 nv1, e = .returned (.slice A2 E.length c2) ∧ E.length ≤ c2 ∧ Kd.F kEv w' (fun k => (g < k ∧ some k ≠ nv1.ownBlock) ∧ some k ≠ v.ownBlock) A2 E.length E ∧ LE w w' g q nv1 v out := by
  have hF : Kd.F (Kd.int .u8) W (fun k => k ≠ g ∧ some k ≠ nv.ownBlock) A b.length b :=
    Kd.F_mono (Kd.F_below (Kd.C_F (Kd.heap_int .u8) hC) L.pw.st.hb) (fun k hk => ⟨by have := L.pw.st.ge; omega, fun h => by have := Kd.R_base L.pw.rn k h.symm; omega⟩)
  refine (PFeed_any w W g p nv m A c b L.pw.st L.pw.rn hp hm hF h8).mono ?_
  rintro e w' ⟨nv1, vo, rfl, F⟩
  rw [hf] at F
  dsimp only at F
  have hgs := L.gs
  obtain ⟨A2, c2, rfl, hc2, -⟩ := Kd.N_reads F.on
  refine ⟨A2, c2, nv1, rfl, hc2, Kd.F_mono (Kd.N_F F.on) (fun k hk => ⟨⟨by have := hk.1; omega, hk.2⟩, fun h => by have := Kd.N_lt L.on k h.symm; have := hk.1; omega⟩), ⟨F.st, F.rn⟩, ?_⟩
  refine Kd.N_mono (Kd.N_kept (Kd.N_bound L.on) F.kp (fun k hk h => h.elim (fun h => by have := hk.1.1; omega) hk.1.2)) (fun k hk => ⟨hk.1.1, fun h => ?_⟩)
  rcases F.nb k h.symm with h | h
  · exact hk.1.2 h.symm
  · have := hk.2; omega
theorem LE_flush (L : LE w W g p nv v out) :
    Calls Try.prog 14 #[.pointer (some ⟨g, 0, none⟩)] W fun e w' => ∃ A2 c2, e = .returned (.slice A2 (flushV p.h).length c2) ∧ (flushV p.h).length ≤ c2 ∧ Kd.F kEv w' (fun k => (g < k ∧ some k ≠ nv.ownBlock) ∧ some k ≠ v.ownBlock) A2 (flushV p.h).length (flushV p.h) ∧ LE w w' g ⟨0, p.n, []⟩ nv v out := by
  refine (PFlush_any L.pw).mono ?_
  rintro e w' ⟨A2, c2, rfl, hc2, hF, hP, hK⟩
  have hgs := L.gs
  exact ⟨A2, c2, rfl, hc2, Kd.F_mono hF (fun k hk => ⟨⟨by omega, fun h => by have := Kd.R_lt L.pw.rn k h.symm; omega⟩, fun h => by have := Kd.N_lt L.on k h.symm; omega⟩), hP, Kd.N_kept L.on hK (fun k hk h => by have := hk.1; omega)⟩
end
end Go.Proofs.Ytlllbaieidbcdaa.Str
