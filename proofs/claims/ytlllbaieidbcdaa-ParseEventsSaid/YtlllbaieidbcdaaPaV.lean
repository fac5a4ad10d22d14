/- Both parsers side by side, as the law of events sees them. -/
import Derived.Test.YtlllbaieidbcdaaPaU
namespace Go.Proofs.Ytlllbaieidbcdaa.Str
open Go.RowKit Go.Proofs.Ytlllbaieidbcdaa Go.Proofs.Ytlllbaieidbcdaa.PParseEvents Go.Proofs.YtlllbaieidbcdaaW.PrintWords Go.Proofs.YtlllbaieidbcdaaW.PrintLast Go.Proofs.YtlllbaieidbcdaaW.PrintMore
set_option linter.unusedVariables false
set_option linter.unusedSimpArgs false
theorem RD.kept {α : Type} {d : Kd α} {W W1 : World} {ok S : Nat → Prop} {v : Value} {l : List α} (h : RD d W ok v l) (hk : Kept W W1 S) (hn : ∀ k, ok k → ¬ S k) : RD d W1 ok v l := by
  obtain ⟨A, c, rfl, hc, hF⟩ := h
  exact ⟨A, c, rfl, hc, Kd.F_kept hF hk hn⟩
abbrev okR (w : World) (nv : Value) : Nat → Prop := fun k => k ≠ w.heap.size ∧ k ≠ w.heap.size + 1 ∧ some k ≠ nv.ownBlock
/-- The program's parser p at the first block, the document's, q, in the next one. -/
structure EM (w W : World) (B : Nat) (p q : PP) (nv vn vh : Value) : Prop where
  pw : PW w W w.heap.size p nv
  b1 : W.heap[w.heap.size + 1]? = some (.cells #[.int .i64 q.st, vn, vh] 31 (0, 0))
  rn : RD (Kd.int .i64) W (fun k => okR w nv k ∧ k < B) vn q.n
  rh : RD (Kd.int .u8) W (fun k => okR w nv k ∧ k < B) vh q.h
  bs : B ≤ W.heap.size
  nl : ∀ k, nv.ownBlock = some k → w.heap.size + 1 < k
section
variable {w W W1 : World} {B : Nat} {p q : PP} {nv vn vh : Value}
theorem EM.sz (E : EM w W B p q nv vn vh) : w.heap.size + 2 ≤ W.heap.size := blk_lt E.b1
theorem EM.below (E : EM w W B p q nv vn vh) (hb : Below W.heap.size W W1) : EM w W1 B p q nv vn vh :=
  ⟨E.pw.below hb, blk_below E.b1 hb, E.rn.below hb, E.rh.below hb, Nat.le_trans E.bs hb.size, E.nl⟩
theorem EM.bound (E : EM w W B p q nv vn vh) : EM w W W.heap.size p q nv vn vh :=
  ⟨E.pw, E.b1, E.rn.mono (fun k hk => ⟨hk.1, Nat.lt_of_lt_of_le hk.2 E.bs⟩), E.rh.mono (fun k hk => ⟨hk.1, Nat.lt_of_lt_of_le hk.2 E.bs⟩), Nat.le_refl _, E.nl⟩
/-- Newer blocks were written. -/
theorem EM.kept (E : EM w W B p q nv vn vh) {S : Nat → Prop} (hk : Kept W W1 S) (hb : Below w.heap.size w W1) (hS : ∀ k, S k → B ≤ k) (hn : ∀ k, nv.ownBlock = some k → ¬ S k) (h2 : w.heap.size + 2 ≤ B) : EM w W1 B p q nv vn vh :=
  ⟨E.pw.kept hk hb (fun h => by have := hS _ h; omega) hn, blk_kept E.b1 hk (fun h => by have := hS _ h; omega), E.rn.kept hk (fun k h h' => by have := hS _ h'; have := h.2; omega), E.rh.kept hk (fun k h h' => by have := hS _ h'; have := h.2; omega), Nat.le_trans E.bs hk.1, E.nl⟩
theorem EM.cells (E : EM w W B p q nv vn vh) : W.cell? ⟨w.heap.size + 1, 0, none⟩ = some (.int .i64 q.st) ∧ W.cell? ⟨w.heap.size + 1, 1, none⟩ = some vn ∧ W.cell? ⟨w.heap.size + 1, 2, none⟩ = some vh :=
  ⟨(blk_cell E.b1 0).trans rfl, (blk_cell E.b1 1).trans rfl, (blk_cell E.b1 2).trans rfl⟩
/-- The document's parser takes bytes; its box is set behind. -/
theorem EM_rfeed (E : EM w W B p p nv vn vh) (m : Nat) (A : Option Addr) (c : Nat) (b : List Int) (hp : p.ok m) (hm : m + b.length ≤ 10000) (hC : Kd.C (Kd.int .u8) w A b.length b) (h8 : In8u b) {q : PP} {Ev : List Evt} (hs : feedV p b = (q, Ev)) :
    Calls Try.prog 6 #[.agg #[.int .i64 p.st, vn, vh], .slice A b.length c] W fun e w' => ∃ An cn Ah ch Ao co, e = .returned (.tuple #[.agg #[.int .i64 q.st, .slice An q.n.length cn, .slice Ah q.h.length ch], .slice Ao Ev.length co]) ∧ RD (Kd.int .i64) w' (fun k => okR w nv k ∧ k < w'.heap.size) (.slice An q.n.length cn) q.n ∧ RD (Kd.int .u8) w' (fun k => okR w nv k ∧ k < w'.heap.size) (.slice Ah q.h.length ch) q.h ∧ (Ev.length ≤ co ∧ Kd.F kE8 w' (fun k => okR w nv k ∧ k < w'.heap.size) Ao Ev.length (Ev.map ev48)) ∧ EM w w' B p p nv vn vh ∧ Below W.heap.size W w' := by
  have hsz := E.sz
  refine (RFeed_any W p m vn vh A c b (okR w nv) hp hm (E.rn.mono (fun k hk => hk.1)) (E.rh.mono (fun k hk => hk.1)) (Kd.C_below hC E.pw.st.hb) h8 hs).mono ?_
  rintro e w' ⟨v1, v2, v3, rfl, h1, h2, h3, hb⟩
  have hok : ∀ k, okS (okR w nv) W k → okR w nv k := fun k hk => by
    by_cases h : k < W.heap.size
    · exact hk.2.2 h
    · exact ⟨by omega, by omega, fun e => by have := Kd.R_lt E.pw.rn k e.symm; omega⟩
  have h1 := (h1.mono hok).bound
  have h2 := (h2.mono hok).bound
  have h3 := (h3.mono hok).bound
  obtain ⟨An, cn, rfl, hcn, hFn⟩ := h1
  obtain ⟨Ah, ch, rfl, hch, hFh⟩ := h2
  obtain ⟨Ao, co, rfl, hco, hFo⟩ := h3
  rw [List.length_map] at hco hFo ⊢
  exact ⟨An, cn, Ah, ch, Ao, co, rfl, ⟨An, cn, rfl, hcn, hFn⟩, ⟨Ah, ch, rfl, hch, hFh⟩, ⟨hco, hFo⟩, E.below hb, hb⟩
theorem EM.put (E : EM w W B p p nv vn vh) {u v : Value} {q : PP} {B1 : Nat} (hB : B1 ≤ W.heap.size) (hn : RD (Kd.int .i64) W (fun k => okR w nv k ∧ k < B1) u q.n) (hh : RD (Kd.int .u8) W (fun k => okR w nv k ∧ k < B1) v q.h) : EM w (pOut W (w.heap.size + 1) q.st u v) B1 p q nv u v := by
  have hx : ∀ i u, PW w W w.heap.size p nv → PW w (W.setCell ⟨w.heap.size + 1, i, none⟩ u) w.heap.size p nv := fun i u h =>
    h.kept (S := fun k => k = w.heap.size + 1) ((Kept.refl _ (fun k => k = w.heap.size + 1)).setCell (p := ⟨w.heap.size + 1, i, none⟩) (.inl rfl) _) (h.st.hb.setCell (Nat.le_succ _) _) (by omega) (fun k hk h' => by have := E.nl k hk; omega)
  have hsz : ∀ (W : World) i u, (W.setCell ⟨w.heap.size + 1, i, none⟩ u).heap.size = W.heap.size := fun W i u => by simp [World.setCell]
  refine ⟨?_, by simpa [pOut] using blk_set (blk_set (blk_set E.b1 0 (.int .i64 q.st)) 1 u) 2 v, ?_, ?_, by unfold pOut; rw [hsz, hsz, hsz]; exact hB, E.nl⟩
  · have h1 := hx 0 (.int .i64 q.st) E.pw
    have h2 : PW w ((W.setCell ⟨w.heap.size + 1, 0, none⟩ (.int .i64 q.st)).setCell ⟨w.heap.size + 1, 1, none⟩ u) w.heap.size p nv := h1.kept (S := fun k => k = w.heap.size + 1) ((Kept.refl _ (fun k => k = w.heap.size + 1)).setCell (p := ⟨w.heap.size + 1, 1, none⟩) (.inl rfl) _) (h1.st.hb.setCell (Nat.le_succ _) _) (by omega) (fun k hk h' => by have := E.nl k hk; omega)
    exact h2.kept (S := fun k => k = w.heap.size + 1) ((Kept.refl _ (fun k => k = w.heap.size + 1)).setCell (p := ⟨w.heap.size + 1, 2, none⟩) (.inl rfl) _) (h2.st.hb.setCell (Nat.le_succ _) _) (by omega) (fun k hk h' => by have := E.nl k hk; omega)
  · exact ((hn.far (fun k hk => hk.1.2.1) _).far (fun k hk => hk.1.2.1) _).far (fun k hk => hk.1.2.1) _
  · exact ((hh.far (fun k hk => hk.1.2.1) _).far (fun k hk => hk.1.2.1) _).far (fun k hk => hk.1.2.1) _
/-- The program's parser takes bytes. -/
theorem EM_pfeed (E : EM w W B p q nv vn vh) (m : Nat) (A : Option Addr) (c : Nat) (b : List Int) (hp : p.ok m) (hm : m + b.length ≤ 10000) (hC : Kd.C (Kd.int .u8) w A b.length b) (h8 : In8u b) {q' : PP} {Ev : List Evt} (hf : feedV p b = (q', Ev)) :
    Calls Try.prog 9 #[.pointer (some ⟨w.heap.size, 0, none⟩), .slice A b.length c] W fun e w' => ∃ A2 c2 nv1, e = .returned (.slice A2 Ev.length c2) ∧ Ev.length ≤ c2 ∧ Kd.C kEv w' A2 Ev.length Ev ∧ EM w w' B q' q nv1 vn vh ∧ Kept W w' (fun k => k = w.heap.size ∨ some k = nv.ownBlock) ∧ Below w.heap.size w w' ∧ (∀ k, nv1.ownBlock = some k → nv.ownBlock = some k ∨ W.heap.size < k) := by
  have hF : Kd.F (Kd.int .u8) W (fun k => k ≠ w.heap.size ∧ some k ≠ nv.ownBlock) A b.length b :=
    Kd.F_mono (Kd.F_below (Kd.C_F (Kd.heap_int .u8) hC) E.pw.st.hb) (fun k hk => ⟨by omega, fun h => by have := Kd.R_base E.pw.rn k h.symm; omega⟩)
  have hsz := E.sz
  refine (PFeed_any w W w.heap.size p nv m A c b E.pw.st E.pw.rn hp hm hF h8).mono ?_
  rintro e w' ⟨nv1, vo, rfl, F⟩
  rw [hf] at F
  dsimp only at F
  obtain ⟨A2, c2, rfl, hc2, hC2⟩ := Kd.N_reads F.on
  have hnb := F.nb
  have hbs := E.bs
  have hok : ∀ k, okR w nv k ∧ k < B → okR w nv1 k ∧ k < B := fun k hk => ⟨⟨hk.1.1, hk.1.2.1, fun h => by
    rcases hnb k h.symm with h' | h'
    · exact hk.1.2.2 h'.symm
    · have := hk.2; omega⟩, hk.2⟩
  refine ⟨A2, c2, nv1, rfl, hc2, hC2, ⟨⟨F.st, F.rn⟩, blk_kept E.b1 F.kp (fun h => h.elim (fun h => by omega) (fun h => by have := E.nl _ h.symm; omega)), (E.rn.kept F.kp (fun k hk h => h.elim hk.1.1 hk.1.2.2)).mono hok, (E.rh.kept F.kp (fun k hk h => h.elim hk.1.1 hk.1.2.2)).mono hok, Nat.le_trans E.bs F.kp.1, fun k hk => ?_⟩, F.kp, F.st.hb, hnb⟩
  rcases hnb k hk with h | h
  · exact E.nl k h
  · omega
end
theorem F_pOut {α : Type} {d : Kd α} {W : World} {ok : Nat → Prop} {A : Option Addr} {n : Nat} {xs : List α} {g : Nat} (h : Kd.F d W ok A n xs) (hk : ∀ k, ok k → k ≠ g) (s : Int) (u v : Value) : Kd.F d (pOut W g s u v) ok A n xs :=
  Kd.F_far (p := ⟨g, 2, none⟩) (Kd.F_far (p := ⟨g, 1, none⟩) (Kd.F_far (p := ⟨g, 0, none⟩) h hk _) hk _) hk _
theorem PP.ok.mono {p : PP} {m m' : Nat} (h : p.ok m) (hm : m ≤ m') : p.ok m' := ⟨h.st0, h.st4, h.l3, h.h8, by have := h.nl; omega, h.nb⟩
theorem RD.empty {α : Type} {d : Kd α} {W W1 : World} {ok ok' : Nat → Prop} {v : Value} (h : RD d W ok v []) : RD d W1 ok' v [] := by
  obtain ⟨A, c, rfl, hc, -⟩ := h
  exact ⟨A, c, rfl, hc, fun W' _ => ⟨rfl, by simp, fun h => absurd h (by simp)⟩⟩
theorem F_cells (W : World) (xs : List Int) (e : Nat) (fr : Nat × Nat) (h : xs.length ≤ 9223372036854775807) : Kd.F (Kd.int .u8) (W.alloc (.cells (xs.map (Value.int .u8)).toArray e fr)) (fun k => k = W.heap.size) (some ⟨W.heap.size, 0, none⟩) xs.length xs := by
  intro W' hW
  have hC := C_cells (k := .u8) W xs e fr h
  have hb := hW W.heap.size rfl (by rw [alloc_size1]; omega)
  refine ⟨hC.1, hC.2.1, fun hp => ?_⟩
  obtain ⟨ad, ha, hr⟩ := hC.2.2 hp
  injection ha with ha
  subst ha
  refine ⟨_, rfl, fun j p hj => ?_⟩
  obtain ⟨cs, hl, hK, hcc⟩ := hr j p hj
  refine ⟨cs, hl, hK, fun i u hu => ?_⟩
  have hc := hcc i u hu
  have hbk : ((⟨W.heap.size, 0, none⟩ : Addr).add (j * (Kd.int .u8).sz + i)).block = W.heap.size := by
    cases (j * (Kd.int .u8).sz + i) <;> simp [Addr.add]
  simpa [World.cell?, hbk, hb] using hc
/-- A copy takes bytes. -/
theorem PC_feed {w W : World} {gc : Nat} {p : PP} {nv : Value} (H : PW w W gc p nv) (m : Nat) (A : Option Addr) (c : Nat) (b : List Int) (hp : p.ok m) (hm : m + b.length ≤ 10000) {okb : Nat → Prop} (hF : Kd.F (Kd.int .u8) W okb A b.length b) (hb : ∀ k, okb k → k ≠ gc ∧ some k ≠ nv.ownBlock) (h8 : In8u b) {q : PP} {Ev : List Evt} (hf : feedV p b = (q, Ev)) :
    Calls Try.prog 9 #[.pointer (some ⟨gc, 0, none⟩), .slice A b.length c] W fun e w' => ∃ A2 c2 nv1, e = .returned (.slice A2 Ev.length c2) ∧ Ev.length ≤ c2 ∧ Kd.C kEv w' A2 Ev.length Ev ∧ PW w w' gc q nv1 ∧ Kept W w' (fun k => k = gc ∨ some k = nv.ownBlock) ∧ (∀ k, nv1.ownBlock = some k → nv.ownBlock = some k ∨ W.heap.size < k) ∧ Below w.heap.size w w' := by
  refine (PFeed_any w W gc p nv m A c b H.st H.rn hp hm (Kd.F_mono hF hb) h8).mono ?_
  rintro e w' ⟨nv1, vo, rfl, F⟩
  rw [hf] at F
  dsimp only at F
  obtain ⟨A2, c2, rfl, hc2, hC2⟩ := Kd.N_reads F.on
  exact ⟨A2, c2, nv1, rfl, hc2, hC2, ⟨F.st, F.rn⟩, F.kp, F.nb, F.st.hb⟩
theorem SameE (A : Option Addr) (c : Nat) (A' : Option Addr) (c' : Nat) (Ev : List Evt) (W : World) (hC : Kd.C kEv W A Ev.length Ev) (hc : Ev.length ≤ c) (hC' : Kd.C kE8 W A' Ev.length (Ev.map ev48)) (hc' : Ev.length ≤ c') (hs : smallEv Ev 8) (hl : Ev.length ≤ 1000000) :
    Calls Try.prog 8 #[.slice A Ev.length c, .slice A' Ev.length c'] W fun e w' => e = .returned (.bool true) ∧ Below W.heap.size W w' := by
  have e : Ev.length = (Ev.map ev48).length := (List.length_map ..).symm
  have h := Same_ev A c Ev A' c' (Ev.map ev48) W hC hc (by rw [← e]; exact hC') (by rw [← e]; exact hc') 8 (by decide) hs hl (r := true) (decide_eq_true rfl)
  rwa [← e] at h
end Go.Proofs.Ytlllbaieidbcdaa.Str
