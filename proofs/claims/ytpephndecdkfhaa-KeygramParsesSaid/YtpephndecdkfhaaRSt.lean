/- The document's parser: a reader of prolepsisref01 in a box (its place one further than the state says), and a box beside it. -/
import Derived.Test.YtpephndecdkfhaaNumX
import Derived.Test.YtpephndecdkfhaaPSt
namespace Go.Proofs.Ytpephndecdkfhaa
open Go.RowKit Go.Proofs.YtpephndecdkfhaaW.PrintWords Go.Proofs.YtpephndecdkfhaaW.PrintLast Go.Proofs.YtpephndecdkfhaaW.PrintMore
set_option linter.unusedVariables false
set_option linter.unusedSimpArgs false
def RS.sh (s : RS) (d : Int) : RS := ⟨s.l, s.t + d, s.e⟩
theorem RS.number_sh (s : RS) (d : Int) : (s.sh d).number = (s.number.1.sh d, s.number.2) := by
  unfold RS.number RS.sh
  split
  · split
    · simp; omega
    · rfl
  · rfl
theorem RS.up_sh (s : RS) (d m e : Int) : (s.sh d).up m e = ((s.up m e).1.sh d, (s.up m e).2) := by
  unfold RS.up
  rw [RS.number_sh]
  by_cases h : s.e = 0
  · rw [if_pos (show (s.sh d).e = 0 from h), if_pos h]
    by_cases h2 : s.number.1.e = 0
    · rw [if_pos (show (s.number.1.sh d).e = 0 from h2), if_pos h2]
      by_cases h3 : 0 ≤ m ∧ s.number.2 ≤ m
      · rw [if_pos h3, if_pos h3]
      · rw [if_neg h3, if_neg h3]; rfl
    · rw [if_neg (show ¬ (s.number.1.sh d).e = 0 from h2), if_neg h2]
  · rw [if_neg (show ¬ (s.sh d).e = 0 from h), if_neg h]
theorem RS.take_sh (s : RS) (d n : Int) : (s.sh d).take n = ((s.take n).1.sh d, (s.take n).2) := by
  unfold RS.take RS.sh
  split
  · split
    · simp; omega
    · rfl
  · rfl
/-- The state's rest is what stands behind its place in b. -/
structure At1 (b : List Int) (s : RS) : Prop where
  l : s.l = b.drop (s.t + 1).toNat
  t0 : 0 ≤ s.t
  t1 : s.t + 1 ≤ b.length
theorem At1.sh {b : List Int} {s : RS} (h : At1 b s) : s.sh 1 = ⟨b.drop (s.t + 1).toNat, s.t + 1, s.e⟩ := by unfold RS.sh; rw [h.l]
theorem At1.number {b : List Int} {s : RS} (h8 : In8 b) (h : At1 b s) : At1 b s.number.1 := by
  have hk := RS.number_t (b := b) (t := s.t + 1) (e := s.e) h8 (by have := h.t0; omega) h.t1
  rw [← h.sh, RS.number_sh] at hk
  obtain ⟨k1, k2, k3⟩ := hk
  exact ⟨k1, by have : s.t + 1 ≤ s.number.1.t + 1 := k2; have := h.t0; omega, k3⟩
theorem At1.up {b : List Int} {s : RS} (h8 : In8 b) (h : At1 b s) (m e : Int) : At1 b (s.up m e).1 := by
  have hk := RS.up_t (b := b) (t := s.t + 1) (e := s.e) (most := m) (err := e) h8 (by have := h.t0; omega) h.t1
  rw [← h.sh, RS.up_sh] at hk
  obtain ⟨k1, k2, k3⟩ := hk
  exact ⟨k1, by have : s.t + 1 ≤ (s.up m e).1.t + 1 := k2; have := h.t0; omega, k3⟩
theorem At1.take {b : List Int} {s : RS} (h : At1 b s) (n : Int) : At1 b (s.take n).1 := by
  have hk := RS.take_t (b := b) (t := s.t + 1) (e := s.e) (n := n) (by have := h.t0; omega) h.t1
  rw [← h.sh, RS.take_sh] at hk
  obtain ⟨k1, k2, k3⟩ := hk
  exact ⟨k1, by have : s.t + 1 ≤ (s.take n).1.t + 1 := k2; have := h.t0; omega, k3⟩
theorem rSt_number (A : Option Addr) (c : Nat) (b : List Int) (w : World) (hC : Kd.C (Kd.int .u8) w A b.length b) (hc : b.length ≤ c) (h8 : In8 b) (hbl : b.length ≤ 140737488355328) {s : RS} (h : At1 b s) {q : RS × Int} (hq : s.number = q) :
    Calls Try.prog 26 #[.agg #[.slice A b.length c, .int .i64 (s.t + 1), .int .i64 s.e]] w fun r w' => r = .returned (.tuple #[.agg #[.slice A b.length c, .int .i64 (q.1.t + 1), .int .i64 q.1.e], .int .u64 q.2]) ∧ Below w.heap.size w w' := by
  subst hq
  have := rNumber_any A c b (s.t + 1) s.e w hC hc h8 (by have := h.t0; omega) h.t1 hbl
  rw [← h.sh, RS.number_sh] at this
  exact this
theorem rSt_up (A : Option Addr) (c : Nat) (b : List Int) (w : World) (hC : Kd.C (Kd.int .u8) w A b.length b) (hc : b.length ≤ c) (h8 : In8 b) (hbl : b.length ≤ 140737488355328) {s : RS} (h : At1 b s) (m e : Int) (h0 : 0 ≤ m) (h1 : m ≤ 9223372036854775807) {q : RS × Int} (hq : s.up m e = q) :
    Calls Try.prog 28 #[.agg #[.slice A b.length c, .int .i64 (s.t + 1), .int .i64 s.e], .int .i64 m, .int .i64 e] w fun r w' => r = .returned (.tuple #[.agg #[.slice A b.length c, .int .i64 (q.1.t + 1), .int .i64 q.1.e], .int .i64 q.2]) ∧ Below w.heap.size w w' := by
  subst hq
  have := rUp_any A c b (s.t + 1) s.e m e w hC hc h8 (by have := h.t0; omega) h.t1 hbl (by omega) h1
  rw [← h.sh, RS.up_sh] at this
  exact this
theorem rSt_take (A : Option Addr) (c : Nat) (b : List Int) (w : World) (hC : Kd.C (Kd.int .u8) w A b.length b) (hc : b.length ≤ c) (hbl : b.length ≤ 140737488355328) {s : RS} (h : At1 b s) (n : Int) {q : RS × List Int} (hq : s.take n = q) :
    Calls Try.prog 31 #[.agg #[.slice A b.length c, .int .i64 (s.t + 1), .int .i64 s.e], .int .i64 n] w fun r w' => ∃ v, r = .returned (.tuple #[.agg #[.slice A b.length c, .int .i64 (q.1.t + 1), .int .i64 q.1.e], v]) ∧ Kd.R (Kd.int .u8) 5 w' w.heap.size (fun _ => True) v q.2 ∧ Below w.heap.size w w' := by
  subst hq
  have := rTake_any A c b (s.t + 1) s.e n w hC hc (by have := h.t0; omega) h.t1 hbl
  rw [← h.sh, RS.take_sh] at this
  exact this
theorem rSt_done (A : Option Addr) (c : Nat) (b : List Int) (w : World) {s : RS} (h : At1 b s) :
    Calls Try.prog 38 #[.agg #[.slice A b.length c, .int .i64 (s.t + 1), .int .i64 s.e]] w fun r w' => r = .returned (.int .i64 s.done) ∧ Below w.heap.size w w' := by
  have := rDone_any A c b (s.t + 1) s.e w (by have := h.t0; omega) h.t1
  rw [← h.sh] at this
  exact this
/-- The document's reader stands in the box at gR as s says; the box at gG holds cs; no older block is changed. -/
structure QSt (T TR : TypeId) (w W : World) (gR gG : Nat) (A : Option Addr) (c : Nat) (b : List Int) (s : RS) (cs : Array Value) : Prop where
  hb : Below w.heap.size w W
  hr : W.heap[gR]? = some (.cells #[.slice A b.length c, .int .i64 (s.t + 1), .int .i64 s.e] TR (0, 0))
  hx : W.heap[gG]? = some (.cells cs T (0, 0))
  geR : w.heap.size ≤ gR
  geG : w.heap.size ≤ gG
  ne : gR ≠ gG
  at1 : At1 b s
theorem QSt.below {T TR : TypeId} {w W W1 : World} {gR gG : Nat} {A : Option Addr} {c : Nat} {b : List Int} {s : RS} {cs : Array Value} (h : QSt T TR w W gR gG A c b s cs) (hb : Below W.heap.size W W1) : QSt T TR w W1 gR gG A c b s cs :=
  ⟨below_then h.hb h.hb.size hb, blk_below h.hr hb, blk_below h.hx hb, h.geR, h.geG, h.ne, h.at1⟩
theorem QSt.put {T TR : TypeId} {w W : World} {gR gG : Nat} {A : Option Addr} {c : Nat} {b : List Int} {s : RS} {cs : Array Value} (h : QSt T TR w W gR gG A c b s cs) {s1 : RS} (ha : At1 b s1) :
    QSt T TR w (((W.setCell ⟨gR, 0, none⟩ (.slice A b.length c)).setCell ⟨gR, 1, none⟩ (.int .i64 (s1.t + 1))).setCell ⟨gR, 2, none⟩ (.int .i64 s1.e)) gR gG A c b s1 cs :=
  ⟨((h.hb.setCell h.geR _).setCell h.geR _).setCell h.geR _, blk_set (blk_set (blk_set h.hr 0 _) 1 _) 2 _, blk_far (blk_far (blk_far h.hx h.ne.symm _) h.ne.symm _) h.ne.symm _, h.geR, h.geG, h.ne, ha⟩
theorem QSt.set {T TR : TypeId} {w W : World} {gR gG : Nat} {A : Option Addr} {c : Nat} {b : List Int} {s : RS} {cs cs' : Array Value} (h : QSt T TR w W gR gG A c b s cs) (i : Nat) (v : Value) (hc : cs.setIfInBounds i v = cs') : QSt T TR w (W.setCell ⟨gG, i, none⟩ v) gR gG A c b s cs' :=
  ⟨h.hb.setCell h.geG _, blk_far h.hr h.ne _, by rw [← hc]; exact blk_set h.hx i v, h.geR, h.geG, h.ne, h.at1⟩
theorem QSt.cell {T TR : TypeId} {w W : World} {gR gG : Nat} {A : Option Addr} {c : Nat} {b : List Int} {s : RS} {cs : Array Value} (h : QSt T TR w W gR gG A c b s cs) (i : Nat) {v : Value} (hv : cs[i]? = some v) : W.cell? ⟨gG, i, none⟩ = some v := (blk_cell h.hx i).trans hv
theorem QSt.cellR {T TR : TypeId} {w W : World} {gR gG : Nat} {A : Option Addr} {c : Nat} {b : List Int} {s : RS} {cs : Array Value} (h : QSt T TR w W gR gG A c b s cs) : W.cell? ⟨gR, 0, none⟩ = some (.slice A b.length c) ∧ W.cell? ⟨gR, 1, none⟩ = some (.int .i64 (s.t + 1)) ∧ W.cell? ⟨gR, 2, none⟩ = some (.int .i64 s.e) :=
  ⟨(blk_cell h.hr 0).trans rfl, (blk_cell h.hr 1).trans rfl, (blk_cell h.hr 2).trans rfl⟩
end Go.Proofs.Ytpephndecdkfhaa
