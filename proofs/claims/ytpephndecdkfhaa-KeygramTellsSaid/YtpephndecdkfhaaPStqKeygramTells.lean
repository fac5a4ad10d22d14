/- KeygramTells: what its proof leads to. No condition. -/
import Derived.Test.YtpephndecdkfhaaNumTqKeygramTells
import Derived.Test.YtpephndecdkfhaaShortqKeygramTells
namespace Go.Proofs.Ytpephndecdkfhaa
open Go.RowKit Go.Proofs.YtpephndecdkfhaaW.PrintWords Go.Proofs.YtpephndecdkfhaaW.PrintLast Go.Proofs.YtpephndecdkfhaaW.PrintMore
set_option linter.unusedVariables false
set_option linter.unusedSimpArgs false
theorem cut_lhm {P : Program} {α : Type} (d : Kd α) (t e : TypeId) {z : Value} {bytes : Nat} (ht : P.underlying t = some (.slice e)) (hinfo : (P.info? e).map (fun i => (i.zero, i.size, i.bytes)) = some (some z, d.sz, bytes)) (A : Option Addr) (c : Nat) (xs : List α) (j : Int) (h0 : 0 ≤ j) (hm : j ≤ xs.length) (hc : xs.length ≤ c) :
    ∃ A' : Option Addr, (∀ W : World, (Instr.slice t (.slice A xs.length c) (some (.int .i64 j)) (some (.int .i64 xs.length)) (some (.int .i64 xs.length))).run P W = .ok (.slice A' (xs.drop j.toNat).length (xs.drop j.toNat).length) W) ∧
      (∀ w : World, d.C w A xs.length xs → d.C w A' (xs.drop j.toNat).length (xs.drop j.toNat)) := by
  have hel : P.elem t = e := by simp [Program.elem, ht]
  have hu : P.underlying t = some (.slice (P.elem t)) := by rw [hel]; exact ht
  obtain ⟨i, hi, he⟩ := Option.map_eq_some_iff.1 hinfo
  simp only [Prod.mk.injEq] at he
  refine ⟨_, fun W => ?_, fun w h => Kd.C_drop (c := xs.length) h (by omega) (Nat.le_refl _)⟩
  rw [run_slice_lhm W t A xs.length c hu .i64 .i64 .i64 j xs.length xs.length h0 hm (Int.le_refl _) (by omega), hel, List.length_drop]
  simp [sizeOf, typeInfo, hi, sliced, Result.andThen, he.2.1]
/-- A reader at gr stands as s says; the box at gg holds cs; no older block is changed. -/
structure PSt (T : TypeId) (w W : World) (gr gg : Nat) (s : RS) (cs : Array Value) : Prop where
  hb : Below w.heap.size w W
  hr : RdS w W gr s
  hx : W.heap[gg]? = some (.cells cs T (0, 0))
  ge : w.heap.size ≤ gg
  ne : gr ≠ gg
theorem RdS.far {w0 W : World} {g : Nat} {s : RS} (h : RdS w0 W g s) {p : Addr} (hp : g ≠ p.block) (u : Value) : RdS w0 (W.setCell p u) g s := by
  obtain ⟨⟨A, c, hb, h0, hc, hC⟩, hf⟩ := h
  exact ⟨⟨A, c, blk_far hb hp u, h0, hc, hC⟩, hf⟩
theorem PSt.set {T : TypeId} {w W : World} {gr gg : Nat} {s : RS} {cs cs' : Array Value} (h : PSt T w W gr gg s cs) (i : Nat) (v : Value) (hc : cs.setIfInBounds i v = cs') : PSt T w (W.setCell ⟨gg, i, none⟩ v) gr gg s cs' :=
  ⟨h.hb.setCell h.ge _, h.hr.far h.ne _, by rw [← hc]; exact blk_set h.hx i v, h.ge, h.ne⟩
theorem PSt.call {T : TypeId} {w W W1 : World} {gr gg : Nat} {s s1 : RS} {cs : Array Value} (h : PSt T w W gr gg s cs) (hr : RdS w W1 gr s1) (hg : W.grownBy W1 (some gr)) : PSt T w W1 gr gg s1 cs :=
  ⟨below_grown_ge h.hb hg h.hr.ge, hr, blk_grown h.hx hg (by intro e; injection e with e; exact h.ne e.symm), h.ge, h.ne⟩
theorem PSt.grown {T : TypeId} {w W W1 : World} {gr gg : Nat} {s : RS} {cs : Array Value} (h : PSt T w W gr gg s cs) {row : Option Nat} (hg : W.grownBy W1 row) (hrow : ∀ k, row = some k → w.heap.size ≤ k ∧ k ≠ gr ∧ k ≠ gg) : PSt T w W1 gr gg s cs :=
  ⟨h.hb.grown hg h.hb.size (fun k hk => (hrow k hk).1), h.hr.grown hg (fun e => (hrow gr e.symm).2.1 rfl), blk_grown h.hx hg (fun e => (hrow gg e.symm).2.2 rfl), h.ge, h.ne⟩
theorem PSt.below {T : TypeId} {w W W1 : World} {gr gg : Nat} {s : RS} {cs : Array Value} (h : PSt T w W gr gg s cs) (hb : Below W.heap.size W W1) : PSt T w W1 gr gg s cs :=
  ⟨below_then h.hb h.hb.size hb, h.hr.below hb, blk_below h.hx hb, h.ge, h.ne⟩
theorem PSt.cell {T : TypeId} {w W : World} {gr gg : Nat} {s : RS} {cs : Array Value} (h : PSt T w W gr gg s cs) (i : Nat) {v : Value} (hv : cs[i]? = some v) : W.cell? ⟨gg, i, none⟩ = some v := (blk_cell h.hx i).trans hv
theorem St_number {T : TypeId} {w W : World} {gr gg : Nat} {s : RS} {cs : Array Value} (h : PSt T w W gr gg s cs) {q : RS × Int} (hq : s.number = q) :
    Calls Try.prog 27 #[.pointer (some ⟨gr, 0, none⟩)] W fun r w' => r = .returned (.int .u64 q.2) ∧ PSt T w w' gr gg q.1 cs ∧ W.grownBy w' (some gr) := by
  subst hq
  refine (Number_any w W gr s h.hb h.hr).mono ?_
  rintro r w' ⟨rfl, hR, hg⟩
  exact ⟨rfl, h.call hR hg, hg⟩
theorem St_upto {T : TypeId} {w W : World} {gr gg : Nat} {s : RS} {cs : Array Value} (h : PSt T w W gr gg s cs) (most : Int) (h0 : 0 ≤ most) (h1 : most ≤ 9223372036854775807) {q : RS × Int} (hq : s.up most 5 = q) :
    Calls Try.prog 29 #[.pointer (some ⟨gr, 0, none⟩), .int .i64 most] W fun r w' => r = .returned (.int .i64 q.2) ∧ PSt T w w' gr gg q.1 cs ∧ W.grownBy w' (some gr) := by
  subst hq
  refine (Upto_any w W gr s most h.hb h.hr (by omega) h1).mono ?_
  rintro r w' ⟨rfl, hR, hg⟩
  exact ⟨rfl, h.call hR hg, hg⟩
theorem St_some {T : TypeId} {w W : World} {gr gg : Nat} {s : RS} {cs : Array Value} (h : PSt T w W gr gg s cs) (most : Int) (h0 : 0 ≤ most) (h1 : most ≤ 9223372036854775807) {q : RS × Int} (hq : s.up most 6 = q) :
    Calls Try.prog 30 #[.pointer (some ⟨gr, 0, none⟩), .int .i64 most] W fun r w' => r = .returned (.int .i64 q.2) ∧ PSt T w w' gr gg q.1 cs ∧ W.grownBy w' (some gr) := by
  subst hq
  refine (Some_any w W gr s most h.hb h.hr (by omega) h1).mono ?_
  rintro r w' ⟨rfl, hR, hg⟩
  exact ⟨rfl, h.call hR hg, hg⟩
theorem St_fail {T : TypeId} {w W : World} {gr gg : Nat} {s : RS} {cs : Array Value} (h : PSt T w W gr gg s cs) (e : Int) :
    Calls Try.prog 33 #[.pointer (some ⟨gr, 0, none⟩), .int .i64 e] W fun r w' => r = .returned (.tuple #[]) ∧ PSt T w w' gr gg (s.fail e) cs ∧ W.grownBy w' (some gr) := by
  refine (Fail_any w W gr s e h.hr).mono ?_
  rintro r w' ⟨rfl, hR, hg⟩
  exact ⟨rfl, h.call hR hg, hg⟩
theorem St_take {T : TypeId} {w W : World} {gr gg : Nat} {s : RS} {cs : Array Value} (h : PSt T w W gr gg s cs) (n : Int) (hl : s.l.length ≤ 140737488355328) :
    Calls Try.prog 32 #[.pointer (some ⟨gr, 0, none⟩), .int .i64 n] W fun r w' => ∃ v, r = .returned v ∧ Kd.R (Kd.int .u8) 5 w' W.heap.size (fun _ => True) v (s.take n).2 ∧ PSt T w w' gr gg (s.take n).1 cs ∧ W.grownBy w' (some gr) := by
  refine (Take_any w W gr s n h.hb h.hr hl).mono ?_
  rintro r w' ⟨v, rfl, hv, hR, hg⟩
  exact ⟨v, rfl, hv, h.call hR hg, hg⟩
/-- What is left is never longer. -/
theorem RS.number_len (s : RS) : s.number.1.l.length ≤ s.l.length := by
  unfold RS.number
  split
  · split
    · show (s.l.drop _).length ≤ _; rw [List.length_drop]; omega
    · exact Nat.le_refl _
  · exact Nat.le_refl _
theorem RS.up_len (s : RS) (m e : Int) : (s.up m e).1.l.length ≤ s.l.length := by
  unfold RS.up
  have := RS.number_len s
  split
  · split
    · split
      · exact this
      · exact Nat.le_refl _
    · exact this
  · exact Nat.le_refl _
theorem RS.fail_len (s : RS) (e : Int) : (s.fail e).l.length ≤ s.l.length := by
  unfold RS.fail
  split <;> exact Nat.le_refl _
theorem RS.take_len (s : RS) (n : Int) : (s.take n).1.l.length ≤ s.l.length := by
  unfold RS.take
  split
  · split
    · show (s.l.drop _).length ≤ _; rw [List.length_drop]; omega
    · exact Nat.le_refl _
  · exact Nat.le_refl _
end Go.Proofs.Ytpephndecdkfhaa
