/- parse.Parser: what Feed calls, in its world's terms. -/
import Derived.Test.YtlllbaieidbcdaaPaE
namespace Go.Proofs.Ytlllbaieidbcdaa.Str
open Go.RowKit Go.Proofs.Ytlllbaieidbcdaa Go.Proofs.Ytlllbaieidbcdaa.PParseEvents Go.Proofs.YtlllbaieidbcdaaW.PrintWords Go.Proofs.YtlllbaieidbcdaaW.PrintLast Go.Proofs.YtlllbaieidbcdaaW.PrintMore
set_option linter.unusedVariables false
set_option linter.unusedSimpArgs false
section
variable {P : Program} {Q : Exit → Act → World → Prop} {ops : Array Oper}
/-- A call of a function value that captures, within a region that draws its order. -/
theorem goesV_ {oi : Oper} {N : Option Tmp} {a : Act} {w : World} {K : Act → World → Prop} {f : FuncId} {fn : Func} {os : Array Operand} {ts : Array TypeId} {x : Operand} {cap : Array Value} (hf : P.funcs[f]? = some fn) (hname : (fn.name == "runtime.NumGoroutine") = false) (hb : fn.body.isSome = true) (args : Array Value)
    (hw : Region.wanted oi (yielded ops a.tmps) = true) (hN : oi.dst = N) (hop : oi.op = .call { callee := .value x, args := os, argTypes := ts }) (hx : a.eval x = .func (.func f) #[] cap) (hargs : os.map a.eval ++ cap = args)
    (h : Calls P f args w fun e w' => ∃ v, e = .returned v ∧ K (a.put N v) w') : if Region.wanted oi (yielded ops a.tmps) = true then Oper.wp P oi a w K Q else K (a.put N undef) w := by
  refine call_ f args hw hN ?_ h
  have he := enters_ hf hname hb args w
  unfold execOp
  simp only [hop, resolve, hx, Deferred.ofValue, invoke, he]
  simp [hargs, he]
end
theorem printed_l (l : List Int) (hl : l.length ≤ 1000000) : ∀ (d i k : Nat) (out : List Evt), i + d = l.length → out.length + d ≤ 1000000 → d < k → parse_printed.l0 k out l (l.length : Int) (i : Int) = some (out ++ prV (l.drop i)) := by
  intro d
  induction d with
  | zero =>
    intro i k out hi ho hk
    obtain ⟨k, rfl⟩ := kp hk
    rw [parse_printed.l0, if_neg (by omega), List.drop_of_length_le (by omega)]
    simp [prV]
  | succ d ih =>
    intro i k out hi ho hk
    obtain ⟨k, rfl⟩ := kp hk
    rw [parse_printed.l0, if_pos (by omega), if_pos (by omega), if_pos (by omega), if_pos (by omega), w64 (by omega) (by omega), cast1, ih (i + 1) k _ (by omega) (by rw [List.length_append, List.length_singleton]; omega) (by omega), drop_rd (show i < l.length by omega)]
    simp [prV]
theorem printed_ok (l : List Int) (hl : l.length ≤ 1000000) : parse_printed.f 1000002 l = some (prV l) := by
  unfold parse_printed.f
  have := printed_l l hl l.length 0 1000002 [] (by omega) (by simp; omega) (by omega)
  simpa using this
theorem blk_old (w : World) (o : Obj) {k : Nat} (h : k < w.heap.size) : (w.alloc o).heap[k]? = w.heap[k]? := Below.heap_alloc w o k h
/-- One event, just made. -/
theorem evLit (W : World) (kd r : Int) (A : Option Addr) (c : Nat) (n : List Int) (okn : Nat → Prop) (hF : Kd.F (Kd.int .i64) W okn A n.length n) (hc : n.length ≤ c) :
    Kd.F kEv (W.alloc (.cells #[.int .i64 kd, .int .i32 r, .slice A n.length c] 46)) (fun j => j = W.heap.size ∨ (okn j ∧ j < W.heap.size)) (some ⟨W.heap.size, 0, none⟩) 1 [(⟨kd, r, n⟩ : Evt)] := by
  intro W' hW
  have hb := (hW W.heap.size (.inl rfl) (by show _ < (W.heap.push _).size; simp)).trans (blk_new W _)
  have hn : Kd.C (Kd.int .i64) W' A n.length n := hF W' (fun k hk hlt => (hW k (.inr ⟨hk, hlt⟩) (Nat.lt_of_lt_of_le hlt (by show _ ≤ (W.heap.push _).size; simp))).trans (blk_old W _ hlt))
  refine ⟨rfl, by omega, fun _ => ⟨_, rfl, fun j p hp => ?_⟩⟩
  have hj : j = 0 := by have := (List.getElem?_eq_some_iff.1 hp).1; simp at this; omega
  subst hj
  obtain rfl : (⟨kd, r, n⟩ : Evt) = p := by simpa using hp
  refine ⟨_, rfl, k46_mk W' _ (by exact hc) hn, fun i u hu => ?_⟩
  have e : (⟨W.heap.size, 0, none⟩ : Addr).add (0 * kEv.sz + i) = ⟨W.heap.size, i, none⟩ := by
    rw [Nat.zero_mul, Nat.zero_add]
    cases i <;> simp [Addr.add]
  rw [e, blk_cell hb i]
  have := hu
  match i with
  | 0 => simpa using this
  | 1 => simpa using this
  | 2 => simpa using this
  | i + 3 => simp at this
section
variable {w W0 W W1 : World} {g go : Nat} {nv0 nv vo : Value} {p : PP} {out : List Evt}
theorem FS.freshOk (F : FS w W0 g go nv0 p nv vo out W) : ∀ k, W.heap.size ≤ k → (go < k ∧ some k ≠ nv.ownBlock) ∧ some k ≠ vo.ownBlock := fun k hk =>
  ⟨⟨Nat.lt_of_lt_of_le F.gs hk, fun h => by have := F.nlt k h.symm; omega⟩, fun h => by have := Kd.N_lt F.on k h.symm; omega⟩
theorem FS_flush (F : FS w W0 g go nv0 p nv vo out W) {r : List Int} (hr : (if p.h = [] then [] else [65533]) = r) :
    Calls Try.prog 24 #[.pointer (some ⟨g, 0, none⟩)] W fun e w' => ∃ A c, e = .returned (.slice A r.length c) ∧ r.length ≤ c ∧ Kd.C (Kd.int .i32) w' A r.length r ∧ FS w W0 g go nv0 ⟨p.st, p.n, []⟩ nv vo out w' := by
  refine (Flush_any w W g p.h r F.st hr).mono ?_
  rintro e w' ⟨v, rfl, hR, hS, hG⟩
  obtain ⟨A, c, rfl, hc, hC⟩ := Kd.R_reads hR
  exact ⟨A, c, rfl, hc, hC, F.grown hG (q := ⟨p.st, p.n, []⟩) rfl hS⟩
theorem FS_sfeed (F : FS w W0 g go nv0 p nv vo out W) (A : Option Addr) (c : Nat) (x : Int) (hx : 0 ≤ x ∧ x ≤ 255) (hh : In8u p.h) (hC : Kd.C (Kd.int .u8) W A 1 [x]) (hc : 1 ≤ c) {sc hl : List Int} (hcut : cutZ (p.h ++ [x]) = (sc, hl)) :
    Calls Try.prog 25 #[.pointer (some ⟨g, 0, none⟩), .slice A 1 c] W fun e w' => ∃ A c, e = .returned (.slice A sc.length c) ∧ sc.length ≤ c ∧ Kd.C (Kd.int .i32) w' A sc.length sc ∧ FS w W0 g go nv0 ⟨p.st, p.n, hl⟩ nv vo out w' := by
  refine (Feed_any w W g p.h A c [x] sc hl F.st hC hc (fun y hy => (List.mem_append.1 hy).elim (hh y) (fun hy => by rw [List.mem_singleton.1 hy]; omega)) (by simp) hcut).mono ?_
  rintro e w' ⟨v, rfl, hR, hS, hG⟩
  obtain ⟨A, c, rfl, hc, hC⟩ := Kd.R_reads hR
  exact ⟨A, c, rfl, hc, hC, F.grown hG (q := ⟨p.st, p.n, hl⟩) rfl hS⟩
theorem FS_printed (F : FS w W0 g go nv0 p nv vo out W) (A : Option Addr) (c : Nat) (l : List Int) (hC : Kd.C (Kd.int .i32) W A l.length l) (hc : l.length ≤ c) (hl : l.length ≤ 1000000) :
    Calls Try.prog 23 #[.slice A l.length c] W fun e w' => ∃ A c, e = .returned (.slice A (prV l).length c) ∧ Kd.F kEv w' (fun k => W.heap.size ≤ k) A (prV l).length (prV l) ∧ FS w W0 g go nv0 p nv vo out w' := by
  refine (parse_printed.calls 1000002 A c l (prV l) W hC hc (printed_ok l hl)).mono ?_
  rintro e w' ⟨v, rfl, hS, hb⟩
  obtain ⟨A, c, rfl, -, -⟩ := Kd.R_reads (Kd.S_R hS)
  exact ⟨A, c, rfl, Kd.F_mono (Kd.S_F (Kd.S_bound hS)) (fun k hk => hk.2.1), F.below hb⟩
end
end Go.Proofs.Ytlllbaieidbcdaa.Str
