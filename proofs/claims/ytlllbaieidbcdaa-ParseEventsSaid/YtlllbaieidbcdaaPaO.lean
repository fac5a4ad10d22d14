/- The document's parser: the world of its step. -/
import Derived.Test.YtlllbaieidbcdaaPaN
namespace Go.Proofs.Ytlllbaieidbcdaa.Str
open Go.RowKit Go.Proofs.Ytlllbaieidbcdaa Go.Proofs.Ytlllbaieidbcdaa.PParseEvents Go.Proofs.YtlllbaieidbcdaaW.PrintWords Go.Proofs.YtlllbaieidbcdaaW.PrintLast Go.Proofs.YtlllbaieidbcdaaW.PrintMore
set_option linter.unusedVariables false
set_option linter.unusedSimpArgs false
abbrev kE8 := k48
abbrev tP8 : Nat := 31
theorem infoE8 : (Try.prog.info? 48).map (fun i => (i.zero, i.size, i.bytes)) = some (some (.agg #[.int .i64 0, .int .i64 0, .slice none 0 0]), 3, 40) := by kernel_rfl
/-- A step's: none of the two boxes; of what was there before, what P lets. -/
abbrev okS (P : Nat → Prop) (w : World) : Nat → Prop := fun k => k ≠ w.heap.size ∧ k ≠ w.heap.size + 1 ∧ (k < w.heap.size → P k)
theorem okS_new {P : Nat → Prop} {w : World} {k : Nat} (h : w.heap.size + 2 ≤ k) : okS P w k := ⟨by omega, by omega, fun h' => absurd h' (by omega)⟩
/-- Within a step: the state's box is the first block, the answer's the next. -/
structure RQ (P : Nat → Prop) (w W : World) (st : Int) (n h : List Int) (vn vh vo : Value) (L : List S48) : Prop where
  b3 : W.heap[w.heap.size]? = some (.cells #[.int .i64 st, vn, vh] 31 (0, 0))
  b6 : W.heap[w.heap.size + 1]? = some (.cells #[.int .i64 0, .slice none 0 0, .slice none 0 0] 31 (0, 0))
  hb : Below w.heap.size w W
  rn : RD (Kd.int .i64) W (okS P w) vn n
  rh : RD (Kd.int .u8) W (okS P w) vh h
  ro : RD kE8 W (okS P w) vo L
section
variable {P : Nat → Prop} {w W W1 : World} {st : Int} {n h : List Int} {vn vh vo : Value} {L : List S48}
theorem RQ.sz (R : RQ P w W st n h vn vh vo L) : w.heap.size + 2 ≤ W.heap.size := blk_lt R.b6
theorem RQ.below (R : RQ P w W st n h vn vh vo L) (hb : Below W.heap.size W W1) : RQ P w W1 st n h vn vh vo L :=
  ⟨blk_below R.b3 hb, blk_below R.b6 hb, below_then R.hb R.hb.size hb, R.rn.below hb, R.rh.below hb, R.ro.below hb⟩
theorem RQ.cells (R : RQ P w W st n h vn vh vo L) : W.cell? ⟨w.heap.size, 0, none⟩ = some (.int .i64 st) ∧ W.cell? ⟨w.heap.size, 1, none⟩ = some vn ∧ W.cell? ⟨w.heap.size, 2, none⟩ = some vh ∧ W.frozen? ⟨w.heap.size, 0, none⟩ = false ∧ W.frozen? ⟨w.heap.size, 1, none⟩ = false ∧ W.frozen? ⟨w.heap.size, 2, none⟩ = false :=
  ⟨(blk_cell R.b3 0).trans rfl, (blk_cell R.b3 1).trans rfl, (blk_cell R.b3 2).trans rfl, blk_frozen R.b3 0, blk_frozen R.b3 1, blk_frozen R.b3 2⟩
theorem RQ.cells6 (R : RQ P w W st n h vn vh vo L) : W.cell? ⟨w.heap.size + 1, 0, none⟩ = some (.int .i64 0) ∧ W.cell? ⟨w.heap.size + 1, 1, none⟩ = some (.slice none 0 0) ∧ W.cell? ⟨w.heap.size + 1, 2, none⟩ = some (.slice none 0 0) ∧ W.frozen? ⟨w.heap.size + 1, 0, none⟩ = false ∧ W.frozen? ⟨w.heap.size + 1, 1, none⟩ = false ∧ W.frozen? ⟨w.heap.size + 1, 2, none⟩ = false :=
  ⟨(blk_cell R.b6 0).trans rfl, (blk_cell R.b6 1).trans rfl, (blk_cell R.b6 2).trans rfl, blk_frozen R.b6 0, blk_frozen R.b6 1, blk_frozen R.b6 2⟩
theorem RQ.setst (R : RQ P w W st n h vn vh vo L) (s : Int) : RQ P w (W.setCell ⟨w.heap.size, 0, none⟩ (.int .i64 s)) s n h vn vh vo L := by
  refine ⟨by simpa using blk_set R.b3 0 (.int .i64 s), blk_far R.b6 (show w.heap.size + 1 ≠ w.heap.size by omega) _, R.hb.setCell (Nat.le_refl _) _, R.rn.far (fun k hk => hk.1) _, R.rh.far (fun k hk => hk.1) _, R.ro.far (fun k hk => hk.1) _⟩
theorem RQ.setn (R : RQ P w W st n h vn vh vo L) {v' : Value} {n' : List Int} (hn : RD (Kd.int .i64) W (okS P w) v' n') : RQ P w (W.setCell ⟨w.heap.size, 1, none⟩ v') st n' h v' vh vo L := by
  refine ⟨by simpa using blk_set R.b3 1 v', blk_far R.b6 (show w.heap.size + 1 ≠ w.heap.size by omega) _, R.hb.setCell (Nat.le_refl _) _, hn.far (fun k hk => hk.1) _, R.rh.far (fun k hk => hk.1) _, R.ro.far (fun k hk => hk.1) _⟩
theorem RQ.seth (R : RQ P w W st n h vn vh vo L) {v' : Value} {h' : List Int} (hn : RD (Kd.int .u8) W (okS P w) v' h') : RQ P w (W.setCell ⟨w.heap.size, 2, none⟩ v') st n h' vn v' vo L := by
  refine ⟨by simpa using blk_set R.b3 2 v', blk_far R.b6 (show w.heap.size + 1 ≠ w.heap.size by omega) _, R.hb.setCell (Nat.le_refl _) _, R.rn.far (fun k hk => hk.1) _, hn.far (fun k hk => hk.1) _, R.ro.far (fun k hk => hk.1) _⟩
theorem RQ.out (R : RQ P w W st n h vn vh vo L) {v' : Value} {L' : List S48} (hn : RD kE8 W (okS P w) v' L') : RQ P w W st n h vn vh v' L' := ⟨R.b3, R.b6, R.hb, R.rn, R.rh, hn⟩
def pOut (W : World) (g : Nat) (s : Int) (u v : Value) : World := ((W.setCell ⟨g, 0, none⟩ (.int .i64 s)).setCell ⟨g, 1, none⟩ u).setCell ⟨g, 2, none⟩ v
/-- The state's box is set whole. -/
theorem RQ.whole (R : RQ P w W st n h vn vh vo L) (s : Int) {u v : Value} {n' h' : List Int} (hn : RD (Kd.int .i64) W (okS P w) u n') (hh : RD (Kd.int .u8) W (okS P w) v h') :
    RQ P w (pOut W w.heap.size s u v) s n' h' u v vo L :=
  ((R.setst s).setn (hn.far (fun k hk => hk.1) _)).seth ((hh.far (fun k hk => hk.1) _).far (fun k hk => hk.1) _)
/-- What a step answers. -/
def RPost (P : Nat → Prop) (w w' : World) (e : Ending) (st : Int) (n h : List Int) (L : List S48) : Prop :=
  ∃ vn vh vo, e = .returned (.tuple #[.agg #[.int .i64 st, vn, vh], vo]) ∧ RD (Kd.int .i64) w' (okS P w) vn n ∧ RD (Kd.int .u8) w' (okS P w) vh h ∧ RD kE8 w' (okS P w) vo L ∧ Below w.heap.size w w'
theorem RQ.ans (R : RQ P w W st n h vn vh vo L) (s : Int) {u v : Value} {n' h' : List Int} (hn : RD (Kd.int .i64) W (okS P w) u n') (hh : RD (Kd.int .u8) W (okS P w) v h') :
    (pOut W (w.heap.size + 1) s u v).heap[w.heap.size + 1]? = some (.cells #[.int .i64 s, u, v] 31 (0, 0)) ∧ RPost P w (pOut W (w.heap.size + 1) s u v) (.returned (.tuple #[.agg #[.int .i64 s, u, v], vo])) s n' h' L := by
  refine ⟨by simpa [pOut] using blk_set (blk_set (blk_set R.b6 0 (.int .i64 s)) 1 u) 2 v, u, v, vo, rfl, ?_, ?_, ?_, ?_⟩
  · exact ((hn.far (fun k hk => hk.2.1) _).far (fun k hk => hk.2.1) _).far (fun k hk => hk.2.1) _
  · exact ((hh.far (fun k hk => hk.2.1) _).far (fun k hk => hk.2.1) _).far (fun k hk => hk.2.1) _
  · exact ((R.ro.far (fun k hk => hk.2.1) _).far (fun k hk => hk.2.1) _).far (fun k hk => hk.2.1) _
  · exact ((R.hb.setCell (Nat.le_succ _) _).setCell (Nat.le_succ _) _).setCell (Nat.le_succ _) _
theorem flush_f (st : Int) (n h : List Int) (L : List S48) (hl : L.length ≤ 1000000) : prolepsisref08_flush.f st n h L = some (st, [], L ++ (flushV h).map ev48) := by
  unfold prolepsisref08_flush.f flushV
  by_cases hh : h = []
  · subst hh
    rw [if_neg (by simp), if_pos rfl]
    simp
  · have := List.length_pos_iff.2 hh
    rw [if_pos (by omega), if_neg hh]
    simp only [Option.bind_some, List.nil_append, List.length_nil, Nat.zero_add]
    rw [if_pos (by omega), if_pos (by omega)]
    rfl
theorem RQ_flush (R : RQ P w W st n h vn vh vo L) (hl : L.length ≤ 1000000) {L' : List S48} (hL : L ++ (flushV h).map ev48 = L') :
    Calls Try.prog 28 #[.agg #[.int .i64 st, vn, vh], vo] W fun e w' => ∃ Ah ch Ao co, e = .returned (.tuple #[.agg #[.int .i64 st, vn, .slice Ah 0 ch], .slice Ao L'.length co]) ∧ RD (Kd.int .u8) w' (okS P w) (.slice Ah 0 ch) [] ∧ RQ P w w' st n h vn vh (.slice Ao L'.length co) L' := by
  obtain ⟨An, cn, rfl, hcn, hFn⟩ := R.rn
  obtain ⟨Ah, ch, rfl, hch, hFh⟩ := R.rh
  obtain ⟨Ao, co, rfl, hco, hFo⟩ := R.ro
  have hsz := R.sz
  refine (prolepsisref08_flush.calls st An cn n Ah ch h (okS P w) Ao co L st [] L' W (Kd.F_now hFn) hcn (Kd.F_now hFh) hch (Kd.V_mk hco hFo) (by rw [flush_f st n h L hl, hL])).mono ?_
  rintro e w' ⟨v1, v2, rfl, hR, hV, hb⟩
  have h1 := RD.ofR hR
  obtain ⟨A1, c1, rfl, hc1, hF1⟩ := h1
  obtain ⟨A2, c2, rfl, hc2, hF2⟩ := hV
  refine ⟨A1, c1, A2, c2, rfl, ⟨A1, c1, rfl, hc1, Kd.F_mono hF1 (fun k hk => okS_new (by omega))⟩, (R.below hb).out ⟨A2, c2, rfl, hc2, Kd.F_mono hF2 (fun k hk => ?_)⟩⟩
  rcases hk.1 with hk | hk
  · exact hk
  · exact okS_new (by omega)
theorem RQ_cut (W : World) (A : Option Addr) (c : Nat) (b : List Int) (P : Nat → Prop) (hF : Kd.F (Kd.int .u8) W P A b.length b) (hc : b.length ≤ c) (h8 : In8u b) (hl : b.length ≤ 1000) {sc hl' : List Int} (hq : cutZ b = (sc, hl')) :
    Calls Try.prog 32 #[.slice A b.length c] W fun e w' => ∃ A1 c1 A2 c2, e = .returned (.tuple #[.slice A1 sc.length c1, .slice A2 hl'.length c2]) ∧ RD (Kd.int .i64) w' (fun k => P k ∨ W.heap.size ≤ k) (.slice A1 sc.length c1) sc ∧ RD (Kd.int .u8) w' (fun k => P k ∨ W.heap.size ≤ k) (.slice A2 hl'.length c2) hl' ∧ Below W.heap.size W w' := by
  refine (prolepsisref02_Cut.calls 2000 P A c b sc hl' W (Kd.V_mk hc hF) (by rw [rCut_ok b h8 (by omega) 2000 (by omega)]; exact congrArg some hq)).mono ?_
  rintro e w' ⟨v0, v1, rfl, hR, hV, hb⟩
  obtain ⟨A1, c1, rfl, hc1, hF1⟩ := RD.ofR hR
  obtain ⟨A2, c2, rfl, hc2, hF2⟩ := hV
  exact ⟨A1, c1, A2, c2, rfl, ⟨A1, c1, rfl, hc1, Kd.F_mono hF1 (fun k hk => .inr hk)⟩, ⟨A2, c2, rfl, hc2, Kd.F_mono hF2 (fun k hk => hk.1)⟩, hb⟩
end
/-- An empty row, and one event, just made. -/
theorem emptyE (W : World) (base : Nat) (hb : base ≤ W.heap.size) : Kd.N kE8 48 (W.alloc (.cells #[] 48)) base (fun _ => True) (.slice (some ⟨W.heap.size, 0, none⟩) 0 0) [] :=
  Kd.R_N (R_lit0 kE8 (xs := []) (inner := []) base 48 (okp := fun _ => False) (Reps.none _ _) (fun _ h => h.elim) trivial hb (by simp) (fun _ h => h.elim))
theorem evLit8 (W : World) (kd r : Int) (A : Option Addr) (c : Nat) (n : List Int) (okn : Nat → Prop) (hF : Kd.F (Kd.int .i64) W okn A n.length n) (hc : n.length ≤ c) :
    Kd.F kE8 (W.alloc (.cells #[.int .i64 kd, .int .i64 r, .slice A n.length c] 48)) (fun j => j = W.heap.size ∨ (okn j ∧ j < W.heap.size)) (some ⟨W.heap.size, 0, none⟩) 1 [(⟨kd, r, n⟩ : S48)] := by
  intro W' hW
  have hb := (hW W.heap.size (.inl rfl) (by show _ < (W.heap.push _).size; simp)).trans (blk_new W _)
  have hn : Kd.C (Kd.int .i64) W' A n.length n := hF W' (fun k hk hlt => (hW k (.inr ⟨hk, hlt⟩) (Nat.lt_of_lt_of_le hlt (by show _ ≤ (W.heap.push _).size; simp))).trans (blk_old W _ hlt))
  refine ⟨rfl, by omega, fun _ => ⟨_, rfl, fun j p hp => ?_⟩⟩
  have hj : j = 0 := by have := (List.getElem?_eq_some_iff.1 hp).1; simp at this; omega
  subst hj
  obtain rfl : (⟨kd, r, n⟩ : S48) = p := by simpa using hp
  refine ⟨_, rfl, k48_mk W' _ (by exact hc) hn, fun i u hu => ?_⟩
  have e : (⟨W.heap.size, 0, none⟩ : Addr).add (0 * kE8.sz + i) = ⟨W.heap.size, i, none⟩ := by
    rw [Nat.zero_mul, Nat.zero_add]
    cases i <;> simp [Addr.add]
  rw [e, blk_cell hb i]
  have := hu
  match i with
  | 0 => simpa using this
  | 1 => simpa using this
  | 2 => simpa using this
  | i + 3 => simp at this
theorem evNil8 (W : World) (kd r : Int) : Kd.F kE8 (W.alloc (.cells #[.int .i64 kd, .int .i64 r, .slice none 0 0] 48)) (fun j => j = W.heap.size) (some ⟨W.heap.size, 0, none⟩) 1 [(⟨kd, r, []⟩ : S48)] :=
  Kd.F_mono (evLit8 W kd r none 0 [] (fun _ => False) (Kd.F_nil _ _ _) (Nat.le_refl _)) (fun k hk => hk.elim id (fun h => h.1.elim))
theorem RD.F {α : Type} {d : Kd α} {W : World} {ok : Nat → Prop} {A : Option Addr} {c : Nat} {l : List α} (h : RD d W ok (.slice A l.length c) l) : Kd.F d W ok A l.length l ∧ l.length ≤ c := by
  obtain ⟨A', c', e, hc, hF⟩ := h
  injection e with e1 e2 e3
  subst e1 e3
  exact ⟨hF, hc⟩
theorem takeF {W : World} {ok : Nat → Prop} {A : Option Addr} {n : List Int} (hF : Kd.F (Kd.int .i64) W ok A n.length n) (k : Nat) : Kd.F (Kd.int .i64) W ok A (n.take k).length (n.take k) :=
  Kd.F_imp hF (fun W' hC => by
    have h := Kd.C_take hC (m := (n.take k).length) (by rw [List.length_take]; omega)
    rwa [show n.take (n.take k).length = n.take k by
      rw [List.length_take]
      rcases Nat.lt_or_ge k n.length with h' | h'
      · rw [Nat.min_eq_left (Nat.le_of_lt h')]
      · rw [Nat.min_eq_right h', List.take_of_length_le (Nat.le_refl _), List.take_of_length_le h']] at h)
theorem emptyE' (W : World) (base g : Nat) (ok : Nat → Prop) (hb : base ≤ W.heap.size) (hg : g = W.heap.size) (hok : ok g) : Kd.N kE8 48 (W.alloc (.cells #[] 48)) base ok (.slice (some ⟨g, 0, none⟩) 0 0) [] := by
  subst hg
  exact Kd.R_N (R_lit0 kE8 (xs := []) (inner := []) base 48 (okp := fun _ => False) (Reps.none _ _) (fun _ h => h.elim) hok hb (by simp) (fun _ h => h.elim))
theorem evNil8' (W : World) (kd r : Int) (g : Nat) (hg : g = W.heap.size) : Kd.F kE8 (W.alloc (.cells #[.int .i64 kd, .int .i64 r, .slice none 0 0] 48)) (fun j => j = g) (some ⟨g, 0, none⟩) 1 [(⟨kd, r, []⟩ : S48)] := by
  subst hg; exact evNil8 W kd r
theorem drew_size (W : World) (o : Obj) : (W.drew.alloc o).heap.size = W.heap.size + 1 := alloc_size1 W.drew o
theorem size2 (W : World) (a b : Obj) : ((W.alloc a).alloc b).drew.heap.size = W.heap.size + 1 + 1 := (alloc_size1 _ _).trans (congrArg (· + 1) (alloc_size1 _ _))
theorem fork_end {W1 w4 : World} {vE v4 : Value} {gV : Nat} {EV : S48} (hF : Kd.F kE8 W1 (fun k => k = gV) (some ⟨gV, 0, none⟩) 1 [EV]) (hlt : gV < W1.heap.size) (hne : some gV ≠ vE.ownBlock) (hg : W1.grownBy w4 vE.ownBlock) (hat : v4.ownBlock = vE.ownBlock ∨ ∃ b, v4.ownBlock = some b ∧ W1.heap.size ≤ b) :
    Kd.F kE8 w4 (fun k => k = gV) (some ⟨gV, 0, none⟩) 1 [EV] ∧ some gV ≠ v4.ownBlock := by
  refine ⟨Kd.F_grown hF hg (fun k hk => by rw [hk]; exact hne), fun h => ?_⟩
  rcases hat with h' | ⟨b, hb, hle⟩
  · exact hne (h.trans h')
  · rw [hb] at h; injection h with h; omega
theorem pOut_eq (W : World) (g : Nat) (s : Int) (u v : Value) : W.setCells g 0 [.int .i64 s, u, v] = pOut W g s u v := rfl
section
variable {ops : Array Oper} {rest : List Oper} {o : Oper} {a : Act} {Q : Exit → Act → World → Prop} {W : World} {g : Nat} {cs : Array Value}
theorem exec_put (p x : Operand) (ho : o.op = .store 31 p x) (s : Int) (u v : Value) (haddr : a.eval p = .pointer (some ⟨g, 0, none⟩)) (hx : a.eval x = .agg #[.int .i64 s, u, v]) (hb : W.heap[g]? = some (.cells cs 31 (0, 0))) (hcs : cs.size = 3) (hu : u.oneCell' = true) (hv : v.oneCell' = true) :
    (execOp a.eval o).run Try.prog W = .ok .skip (pOut W g s u v) := by
  have hrun := run_store_run (P := Try.prog) (o := 0) 31 (.agg #[.int .i64 s, u, v]) [.int .i64 s, u, v] hb rfl (by kernel_rfl) (by rw [hcs]; simp) (fun q hq => by
    simp at hq
    rcases hq with rfl | rfl | rfl
    · rfl
    · exact hu
    · exact hv)
  rw [pOut_eq] at hrun
  unfold execOp
  simp only [ho, haddr, hx, Sem.run_bind, Sem.run_pure, Result.andThen_ok, hrun]
theorem step_put (p x : Operand) (hN : o.dst = none) (hgd : o.guard = none) (ho : o.op = .store 31 p x) (s : Int) (u v : Value) (haddr : a.eval p = .pointer (some ⟨g, 0, none⟩)) (hx : a.eval x = .agg #[.int .i64 s, u, v]) (hb : W.heap[g]? = some (.cells cs 31 (0, 0))) (hcs : cs.size = 3) (hu : u.oneCell' = true) (hv : v.oneCell' = true)
    (h : ∀ W1, W1 = pOut W g s u v → wpList Try.prog ops Q rest a W1) : wpList Try.prog ops Q (o :: rest) a W := by
  refine wpList_plain hgd fun K hK => ?_
  unfold Oper.wp
  rw [exec_put p x ho s u v haddr hx hb hcs hu hv]
  show K (a.put o.dst undef) _
  rw [hN]
  exact hK a _ (h _ rfl)
theorem step_cell (t : TypeId) (p x : Operand) (hN : o.dst = none) (hgd : o.guard = none) (ho : o.op = .store t p x) {i : Nat} (u : Value) (haddr : a.eval p = .pointer (some ⟨g, i, none⟩)) (hx : a.eval x = u) (hb : W.heap[g]? = some (.cells cs 31 (0, 0))) (hi : i < cs.size) (hc : u.cells.toList = [u]) (ht : (Try.prog.info? t).map (·.size) = some 1) (hu : u.oneCell' = true)
    (h : ∀ W1, W1 = W.setCell ⟨g, i, none⟩ u → wpList Try.prog ops Q rest a W1) : wpList Try.prog ops Q (o :: rest) a W := by
  refine wpList_plain hgd fun K hK => ?_
  have hrun := run_store_run (P := Try.prog) (o := i) t u [u] hb hc ht (by show i + 1 ≤ cs.size; omega) (fun q hq => by rw [List.mem_singleton.1 hq]; exact hu)
  have hw : W.setCells g i [u] = W.setCell ⟨g, i, none⟩ u := rfl
  rw [hw] at hrun
  unfold Oper.wp execOp
  simp only [ho, haddr, hx, Sem.run_bind, Sem.run_pure, Result.andThen_ok, hrun]
  show K (a.put o.dst undef) _
  rw [hN]
  exact hK a _ (h _ rfl)
end
end Go.Proofs.Ytlllbaieidbcdaa.Str
