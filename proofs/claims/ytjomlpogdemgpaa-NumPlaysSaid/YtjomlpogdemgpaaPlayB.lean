/- A reader and the document's reader, side by side: each call. -/
import Derived.Test.YtjomlpogdemgpaaPlayA
namespace Go.Proofs.Ytjomlpogdemgpaa
open Go.RowKit Go.Proofs.YtjomlpogdemgpaaW.PrintWords Go.Proofs.YtjomlpogdemgpaaW.PrintLast Go.Proofs.YtjomlpogdemgpaaW.PrintMore
set_option linter.unusedVariables false
set_option linter.unusedSimpArgs false
theorem R_lowg {α : Type} {d : Kd α} {e base : Nat} {w w1 : World} {ok : Nat → Prop} {v : Value} {xs : List α} {row : Option Nat} (h : d.R e w base ok v xs) (hg : w.grownBy w1 row) (hr : ∀ k, row = some k → k < base) : d.R e w1 base ok v xs :=
  Kd.R_mono (Kd.R_grown (Kd.R_bound h) hg (fun k hk he => by have := hk.2.1; have := hr k he.symm; omega)) (fun _ hk => hk.1)
section
variable {w0 W W1 : World} {gR gM : Nat} {A : Option Addr} {c : Nat} {b : List Int} {s : RS}
theorem Play.rNumber (h : Play w0 W gR gM A c b s) (hb : Below W.heap.size W W1) :
    Calls Try.prog 32 #[.agg #[.slice A b.length c, .int .i64 s.t, .int .i64 s.e]] W1 fun r w' => r = .returned (.tuple #[.agg #[.slice A b.length c, .int .i64 s.number.1.t, .int .i64 s.number.1.e], .int .u64 s.number.2]) ∧ Below W1.heap.size W1 w' := by
  have := rNumber_any A c b s.t s.e W1 (C_below0 h.C (below_then h.bel h.bel.size hb)) h.hc h.h8 h.t0 h.t1 (by have := h.hl; omega)
  rwa [h.eta] at this
theorem Play.rUp (h : Play w0 W gR gM A c b s) (hb : Below W.heap.size W W1) (most err : Int) (hm0 : -9223372036854775808 ≤ most) (hm : most ≤ 9223372036854775807) :
    Calls Try.prog 34 #[.agg #[.slice A b.length c, .int .i64 s.t, .int .i64 s.e], .int .i64 most, .int .i64 err] W1 fun r w' => r = .returned (.tuple #[.agg #[.slice A b.length c, .int .i64 (s.up most err).1.t, .int .i64 (s.up most err).1.e], .int .i64 (s.up most err).2]) ∧ Below W1.heap.size W1 w' := by
  have := rUp_any A c b s.t s.e most err W1 (C_below0 h.C (below_then h.bel h.bel.size hb)) h.hc h.h8 h.t0 h.t1 (by have := h.hl; omega) hm0 hm
  rwa [h.eta] at this
theorem Play.rTake (h : Play w0 W gR gM A c b s) (hb : Below W.heap.size W W1) (n : Int) :
    Calls Try.prog 37 #[.agg #[.slice A b.length c, .int .i64 s.t, .int .i64 s.e], .int .i64 n] W1 fun r w' => ∃ A' c', r = .returned (.tuple #[.agg #[.slice A b.length c, .int .i64 (s.take n).1.t, .int .i64 (s.take n).1.e], .slice A' (s.take n).2.length c']) ∧ Kd.R (Kd.int .u8) 5 w' W1.heap.size (fun _ => True) (.slice A' (s.take n).2.length c') (s.take n).2 ∧ Below W1.heap.size W1 w' := by
  have := rTake_any A c b s.t s.e n W1 (C_below0 h.C (below_then h.bel h.bel.size hb)) h.hc h.t0 h.t1 (by have := h.hl; omega)
  rw [h.eta] at this
  refine this.mono ?_
  rintro r w' ⟨v, rfl, hR, hB⟩
  obtain ⟨A', c', rfl, -, hC'⟩ := Kd.R_reads hR
  exact ⟨A', c', rfl, hR, hB⟩
theorem Play.rDone (h : Play w0 W gR gM A c b s) : Calls Try.prog 44 #[.agg #[.slice A b.length c, .int .i64 s.t, .int .i64 s.e]] W1 fun r w' => r = .returned (.int .i64 s.done) ∧ Below W1.heap.size W1 w' := by
  have := rDone_any A c b s.t s.e W1 h.t0 h.t1
  rwa [h.eta] at this
theorem Play.err (h : Play w0 W gR gM A c b s) (hb : Below W.heap.size W W1) : Calls Try.prog 41 #[.pointer (some ⟨gR, 0, none⟩)] W1 fun r w' => r = .returned (.int .i64 s.e) ∧ w' = W1 := (h.below hb).rd.err
theorem Play.at_ (h : Play w0 W gR gM A c b s) (hb : Below W.heap.size W W1) : Calls Try.prog 42 #[.pointer (some ⟨gR, 0, none⟩)] W1 fun r w' => r = .returned (.int .i64 s.t) ∧ w' = W1 := At_any w0 W1 gR s (h.below hb).rd
theorem Play.done (h : Play w0 W gR gM A c b s) (hb : Below W.heap.size W W1) : Calls Try.prog 43 #[.pointer (some ⟨gR, 0, none⟩)] W1 fun r w' => r = .returned (.int .i64 s.done) ∧ w' = W1 := Done_any w0 W1 gR s (h.below hb).rd
theorem Play.number (h : Play w0 W gR gM A c b s) (hb : Below W.heap.size W W1) (o : Obj) :
    Calls Try.prog 33 #[.pointer (some ⟨gR, 0, none⟩)] ((((W1.setCell ⟨gM, 0, none⟩ (.slice A b.length c)).setCell ⟨gM, 1, none⟩ (.int .i64 s.number.1.t)).setCell ⟨gM, 2, none⟩ (.int .i64 s.number.1.e)).alloc o) fun r w' => r = .returned (.int .u64 s.number.2) ∧ Play w0 w' gR gM A c b s.number.1 := by
  obtain ⟨x1, x2, x3⟩ := (h.below hb).put s.number.1.t s.number.1.e o
  have ht := RS.number_t (e := s.e) h.h8 h.t0 h.t1
  rw [h.eta] at ht
  refine (Number_any w0 _ gR s x3 x1).mono ?_
  rintro r w' ⟨rfl, hr, hg⟩
  exact ⟨rfl, h.fin x2 x3 hr hg ht.1 ht.2.1 ht.2.2⟩
theorem Play.upto (h : Play w0 W gR gM A c b s) (hb : Below W.heap.size W W1) (o : Obj) (n : Int) (hm0 : -9223372036854775808 ≤ n) (hm : n ≤ 9223372036854775807) :
    Calls Try.prog 35 #[.pointer (some ⟨gR, 0, none⟩), .int .i64 n] ((((W1.setCell ⟨gM, 0, none⟩ (.slice A b.length c)).setCell ⟨gM, 1, none⟩ (.int .i64 (s.up n 5).1.t)).setCell ⟨gM, 2, none⟩ (.int .i64 (s.up n 5).1.e)).alloc o) fun r w' => r = .returned (.int .i64 (s.up n 5).2) ∧ Play w0 w' gR gM A c b (s.up n 5).1 := by
  obtain ⟨x1, x2, x3⟩ := (h.below hb).put (s.up n 5).1.t (s.up n 5).1.e o
  have ht := RS.up_t (e := s.e) (most := n) (err := 5) h.h8 h.t0 h.t1
  rw [h.eta] at ht
  refine (Upto_any w0 _ gR s n x3 x1 hm0 hm).mono ?_
  rintro r w' ⟨rfl, hr, hg⟩
  exact ⟨rfl, h.fin x2 x3 hr hg ht.1 ht.2.1 ht.2.2⟩
theorem Play.some_ (h : Play w0 W gR gM A c b s) (hb : Below W.heap.size W W1) (o : Obj) (n : Int) (hm0 : -9223372036854775808 ≤ n) (hm : n ≤ 9223372036854775807) :
    Calls Try.prog 36 #[.pointer (some ⟨gR, 0, none⟩), .int .i64 n] ((((W1.setCell ⟨gM, 0, none⟩ (.slice A b.length c)).setCell ⟨gM, 1, none⟩ (.int .i64 (s.up n 6).1.t)).setCell ⟨gM, 2, none⟩ (.int .i64 (s.up n 6).1.e)).alloc o) fun r w' => r = .returned (.int .i64 (s.up n 6).2) ∧ Play w0 w' gR gM A c b (s.up n 6).1 := by
  obtain ⟨x1, x2, x3⟩ := (h.below hb).put (s.up n 6).1.t (s.up n 6).1.e o
  have ht := RS.up_t (e := s.e) (most := n) (err := 6) h.h8 h.t0 h.t1
  rw [h.eta] at ht
  refine (Some_any w0 _ gR s n x3 x1 hm0 hm).mono ?_
  rintro r w' ⟨rfl, hr, hg⟩
  exact ⟨rfl, h.fin x2 x3 hr hg ht.1 ht.2.1 ht.2.2⟩
theorem Play.take_ (h : Play w0 W gR gM A c b s) (hb : Below W.heap.size W W1) (o : Obj) (n : Int) {base : Nat} {v : Value} {l : List Int} (hv : Kd.R (Kd.int .u8) 5 W1 base (fun _ => True) v l) (hbase : W.heap.size ≤ base) :
    Calls Try.prog 38 #[.pointer (some ⟨gR, 0, none⟩), .int .i64 n] ((((W1.setCell ⟨gM, 0, none⟩ (.slice A b.length c)).setCell ⟨gM, 1, none⟩ (.int .i64 (s.take n).1.t)).setCell ⟨gM, 2, none⟩ (.int .i64 (s.take n).1.e)).alloc o) fun r w' => ∃ A' c', r = .returned (.slice A' (s.take n).2.length c') ∧ Kd.C (Kd.int .u8) w' A' (s.take n).2.length (s.take n).2 ∧ Play w0 w' gR gM A c b (s.take n).1 ∧ Kd.R (Kd.int .u8) 5 w' base (fun _ => True) v l := by
  obtain ⟨x1, x2, x3⟩ := (h.below hb).put (s.take n).1.t (s.take n).1.e o
  have ht := RS.take_t (e := s.e) (n := n) h.t0 h.t1
  rw [h.eta] at ht
  refine (Take_any w0 _ gR s n x3 x1 (by have := h.hl; rw [h.l, List.length_drop]; omega)).mono ?_
  rintro r w' ⟨v, rfl, hR, hr, hg⟩
  obtain ⟨A', c', rfl, -, hC'⟩ := Kd.R_reads hR
  refine ⟨A', c', rfl, hC', h.fin x2 x3 hr hg ht.1 ht.2.1 ht.2.2, ?_⟩
  have h1 := blk_lt h.box
  have h2 := h.rd.lt
  refine R_lowg (Kd.R_alloc (R_low (R_low (R_low hv ?_ _) ?_ _) ?_ _) o) hg (fun k hk => ?_)
  · show gM < base; omega
  · show gM < base; omega
  · show gM < base; omega
  · injection hk with hk; omega
/-- Fail: the reader first. -/
theorem Play.fail1 (h : Play w0 W gR gM A c b s) (hb : Below W.heap.size W W1) (e : Int) :
    Calls Try.prog 39 #[.pointer (some ⟨gR, 0, none⟩), .int .i64 e] W1 fun r w' => r = .returned (.tuple #[]) ∧ RdS w0 w' gR (s.fail e) ∧ W1.grownBy w' (some gR) := Fail_any w0 W1 gR s e (h.below hb).rd
theorem Play.rFail (h : Play w0 W gR gM A c b s) (n : Int) : Calls Try.prog 40 #[.agg #[.slice A b.length c, .int .i64 s.t, .int .i64 s.e], .int .i64 n] W1 fun r w' => r = .returned (.agg #[.slice A b.length c, .int .i64 (s.fail n).t, .int .i64 (s.fail n).e]) ∧ Below W1.heap.size W1 w' := rFail_any A b.length c s.t s.e n s W1 rfl rfl
theorem Play.boxF {W2 W3 : World} (h : Play w0 W gR gM A c b s) (hb : Below W.heap.size W W1) (hg : W1.grownBy W2 (some gR)) (hb3 : Below W2.heap.size W2 W3) :
    W3.heap[gM]? = some (.cells #[.slice A b.length c, .int .i64 s.t, .int .i64 s.e] 57 (0, 0)) := by
  have h1 := blk_grown (h.below hb).box hg (by simpa using h.ne.symm)
  exact (hb3.block gM (blk_lt h1)).trans h1
theorem Play.cellsF {W2 W3 : World} (h : Play w0 W gR gM A c b s) (hb : Below W.heap.size W W1) (hg : W1.grownBy W2 (some gR)) (hb3 : Below W2.heap.size W2 W3) :
    gM < W3.heap.size ∧ W3.cell? ⟨gM, 0, none⟩ = some (.slice A b.length c) ∧ W3.cell? ⟨gM, 1, none⟩ = some (.int .i64 s.t) ∧ W3.cell? ⟨gM, 2, none⟩ = some (.int .i64 s.e) ∧ W3.frozen? ⟨gM, 0, none⟩ = false ∧ W3.frozen? ⟨gM, 1, none⟩ = false ∧ W3.frozen? ⟨gM, 2, none⟩ = false := by
  have hx := h.boxF hb hg hb3
  exact ⟨blk_lt hx, by rw [blk_cell hx]; rfl, by rw [blk_cell hx]; rfl, by rw [blk_cell hx]; rfl, blk_frozen hx _, blk_frozen hx _, blk_frozen hx _⟩
theorem Play.afterFail {W2 W3 : World} {n : Int} (h : Play w0 W gR gM A c b s) (hb : Below W.heap.size W W1) (hr : RdS w0 W2 gR (s.fail n)) (hg : W1.grownBy W2 (some gR)) (hb3 : Below W2.heap.size W2 W3) :
    Play w0 (((W3.setCell ⟨gM, 0, none⟩ (.slice A b.length c)).setCell ⟨gM, 1, none⟩ (.int .i64 (s.fail n).t)).setCell ⟨gM, 2, none⟩ (.int .i64 (s.fail n).e)) gR gM A c b (s.fail n) := by
  obtain ⟨e1, e2⟩ := RS.fail_t (n := n) h.l
  have h1 : W2.heap[gM]? = some (.cells #[.slice A b.length c, .int .i64 (s.fail n).t, .int .i64 s.e] 57 (0, 0)) := by rw [e2]; exact blk_grown (h.below hb).box hg (by simpa using h.ne.symm)
  have hgs : W3.grownBy (put3 W3 gM (.slice A b.length c) (.int .i64 (s.fail n).t) (.int .i64 (s.fail n).e)) (some gM) := grown_set (grown_set (grown_set (grown_refl _ _) _ _) _ _) _ _
  have h2 := (hb3.block gM (blk_lt h1)).trans h1
  have h3 := blk_set (blk_set (blk_set h2 0 (.slice A b.length c)) 1 (.int .i64 (s.fail n).t)) 2 (.int .i64 (s.fail n).e)
  have hB := below_then (below_grown_ge (h.below hb).bel hg h.rd.ge) (below_grown_ge (h.below hb).bel hg h.rd.ge).size hb3
  refine ⟨(hr.below hb3).grown hgs (by simpa using h.ne), by simpa [put3] using h3, below_grown_ge hB hgs h.ge, e1, by rw [e2]; exact h.t0, by rw [e2]; exact h.t1, h.ne, h.ge, h.C, h.hc, h.h8, h.hl⟩
end
#print axioms Play.afterFail
end Go.Proofs.Ytjomlpogdemgpaa
