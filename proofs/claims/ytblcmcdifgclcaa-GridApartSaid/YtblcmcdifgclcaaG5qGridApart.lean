/- GridApart: what its proof leads to. No condition. -/
import Derived.Test.YtblcmcdifgclcaaG4qGridApart
import Derived.Laws.ResultCell
namespace Go.Proofs.Ytblcmcdifgclcaa
open Go.RowKit Go.Proofs.YtblcmcdifgclcaaW.PrintWords Go.Proofs.YtblcmcdifgclcaaW.PrintLast Go.Proofs.YtblcmcdifgclcaaW.PrintMore
set_option linter.unusedVariables false
set_option linter.unusedSimpArgs false
set_option maxHeartbeats 1000000 in
theorem Scalar_any (r : Int) (w : World) : Calls Try.prog 123 #[.int .i32 r] w fun x w' => x = .returned (.bool (scalarZ r)) ∧ w' = w := by
 have HS := aS (show scalarZ r = ((decide (0 ≤ r) && decide (r < 55296)) || (decide (57343 < r) && decide (r ≤ 1114111))) by
  unfold scalarZ
  by_cases a : 0 ≤ r <;> by_cases b : r ≤ 1114111 <;> by_cases c : 55296 ≤ r <;> by_cases d : r ≤ 57343 <;> simp [*] <;> omega)
 obtain ⟨b1, h1⟩ : ∃ b, decide (0 ≤ r) = b := ⟨_, rfl⟩
 obtain ⟨b2, h2⟩ : ∃ b, decide (r < 55296) = b := ⟨_, rfl⟩
 obtain ⟨b3, h3⟩ : ∃ b, decide (57343 < r) = b := ⟨_, rfl⟩
 obtain ⟨b4, h4⟩ : ∃ b, decide (r ≤ 1114111) = b := ⟨_, rfl⟩
 rw [h1, h2, h3, h4] at HS
 cases b1 <;> cases b2 <;> cases b3 <;>
  (go_enter Try.func123, Try.ntmps123
   go_wp2
   go_ret
   exact ⟨by rw [HS.out]; first | rfl | (cases b4 <;> rfl), rfl⟩)
def NoneOf (r : Int) (l : List (Int × Int)) (i : Nat) : Prop := inL r (l.take i) = false
theorem none_next {r lo hi : Int} {l : List (Int × Int)} {i : Nat} (h : NoneOf r l i) (e : l[i]? = some (lo, hi)) (hx : (decide (lo ≤ r) && decide (r ≤ hi)) = false) : NoneOf r l (i + 1) := by
 unfold NoneOf inL at *
 rw [List.take_add_one, e]
 simp only [List.any_append, h, Bool.false_or]
 simpa using hx
theorem inL_at {r lo hi : Int} {l : List (Int × Int)} {i : Nat} (e : l[i]? = some (lo, hi)) (h1 : decide (lo ≤ r) = true) (h2 : decide (r ≤ hi) = true) : inL r l = true := by
 unfold inL
 rw [List.any_eq_true]
 exact ⟨(lo, hi), List.mem_of_getElem? e, by rw [h1, h2]; rfl⟩
theorem none_all {r : Int} {l : List (Int × Int)} (h : NoneOf r l l.length) : inL r l = false := by
 unfold NoneOf at h
 rwa [List.take_length] at h
theorem box_lt (w : World) (o : Obj) : w.heap.size < (w.alloc o).heap.size := by show w.heap.size < (w.heap.push o).size; simp
theorem box_cell (w : World) (v : Value) (t : TypeId) : (w.alloc (.cells #[v] t)).cell? ⟨w.heap.size, 0, none⟩ = some v := by rw [World.cell?_alloc_at _ _ _ _ rfl]; rfl
theorem pick_s {b1 b2 b3 z : Bool} (h : b1 = true ∨ (b2 = true ∧ b3 = true) ∨ z = false) (h1 : b1 = false) (h2 : b2 = false ∨ b3 = false) : z = false := by
 cases b1 <;> cases b2 <;> cases b3 <;> simp_all
set_option maxRecDepth 100000 in
set_option maxHeartbeats 4000000 in
theorem Of_out (r : Int) (w : World) (h : wOf r = -1) : Calls Try.prog 84 #[.int .i32 r] w fun x w' => x = .returned (.int .i64 (wOf r)) ∧ Below w.heap.size w w' := by
 have hmf : ∀ (fn : Fn) (first cap : Array Value) (w : World), (Instr.makeFunc fn first cap).run Try.prog w = .ok (.func fn first cap) w := fun _ _ _ _ => rfl
 have HW := aS h
 have hs : r < 32 ∨ (127 ≤ r ∧ r ≤ 159) ∨ scalarZ r = false := by
  by_cases g : r < 32 ∨ (127 ≤ r ∧ r ≤ 159) ∨ scalarZ r = false
  ·exact g
  ·exfalso; unfold wOf at h; rw [if_neg g] at h; split at h <;> (try split at h) <;> simp at h
 clear h
 obtain ⟨b1, h1⟩ : ∃ b, decide (r < 32) = b := ⟨_, rfl⟩
 obtain ⟨b2, h2⟩ : ∃ b, decide (127 ≤ r) = b := ⟨_, rfl⟩
 obtain ⟨b3, h3⟩ : ∃ b, decide (r ≤ 159) = b := ⟨_, rfl⟩
 have HS := aS (show b1 = true ∨ (b2 = true ∧ b3 = true) ∨ scalarZ r = false by
  rcases hs with a | ⟨a, b⟩ | a
  ·left; rw [← h1]; simpa using a
  ·right; left; rw [← h2, ← h3]; exact ⟨by simpa using a, by simpa using b⟩
  ·right; right; exact a)
 clear hs
 cases b1 <;> cases b2 <;> cases b3 <;>
  first | (have hz : scalarZ r = false := pick_s HS.out rfl (by first | exact .inl rfl | exact .inr rfl); clear HS; go_enter Try.func84, Try.ntmps84; go_wp2_with (go_at_call 123; refine (Scalar_any r _).mono ?_; rintro x w' ⟨rfl, hw⟩; obtain rfl := hw.symm); go_ret; exact ⟨by rw [HW.out]; rfl, bE⟩) | (clear HS; go_enter Try.func84, Try.ntmps84; go_wp2; go_ret; exact ⟨by rw [HW.out]; rfl, bE⟩)
set_option maxRecDepth 100000 in
set_option maxHeartbeats 8000000 in
theorem Of_in' (r : Int) (w : World) (b2 b3 : Bool) (h1 : decide (r < 32) = false) (h2 : decide (127 ≤ r) = b2) (h3 : decide (r ≤ 159) = b3) (hz : scalarZ r = true) (hq : b2 = false ∨ b3 = false) :
 Calls Try.prog 84 #[.int .i32 r] w fun x w' => x = .returned (.int .i64 (wOf r)) ∧ Below w.heap.size w w' := by
 have hmf : ∀ (fn : Fn) (first cap : Array Value) (w : World), (Instr.makeFunc fn first cap).run Try.prog w = .ok (.func fn first cap) w := fun _ _ _ _ => rfl
 have hu91 := Try.underlying152
 have hd : ¬ (r < 32 ∨ (127 ≤ r ∧ r ≤ 159) ∨ scalarZ r = false) := by
  intro h
  rcases h with h | ⟨ha, hb⟩ | h
  ·rw [decide_eq_false_iff_not] at h1; exact h1 h
  ·rw [decide_eq_true ha] at h2; rw [decide_eq_true hb] at h3; rcases hq with h | h <;> simp_all
  ·rw [hz] at h; cases h
 have hw0 : wOf r = if inL r markL = true then 0 else if inL r wideL = true then 2 else 1 := by unfold wOf; rw [if_neg hd]
 have HW0 := aS (show inL r markL = true → wOf r = 0 from fun h => by rw [hw0, if_pos h])
 have HW2 := aS (show inL r markL = false → inL r wideL = true → wOf r = 2 from fun h h' => by rw [hw0, h, h']; rfl)
 have HW1 := aS (show inL r markL = false → inL r wideL = false → wOf r = 1 from fun h h' => by rw [hw0, h, h']; rfl)
 clear hd hw0
 have HQ := aS hq
 clear hq
 cases b2 <;> cases b3
 case true.true => exact absurd HQ.out (by decide)
 all_goals clear HQ
 all_goals go_enter Try.func84, Try.ntmps84
 all_goals go_wp2_with (first | (go_at_call 123; refine (Scalar_any r _).mono ?_; rintro x w' ⟨rfl, hw⟩; obtain rfl := hw.symm) | (go_at_call 124; refine (marks_any _).mono ?_; rintro x w1 ⟨rfl, hb1⟩; have HB1 := aS hb1; clear hb1))
 all_goals
  go_loopg [25] 6 (fun kq v25 w' => ∃ i : Nat, v25 = .int .i64 i ∧ i ≤ 5 ∧ Aside0 (kq = 6 - i) ∧ Aside0 (NoneOf r markL i) ∧ Aside0 (Below w.heap.size w w') ∧ Aside0 (w.heap.size < w'.heap.size) ∧ Aside0 (w'.cell? ⟨w.heap.size, 0, none⟩ = some (.int .i32 r)))
  case atStart => exact ⟨0, rfl, by omega, ⟨rfl⟩, ⟨rfl⟩, ⟨below_step (below_alloc (Below.refl _ _) _) HB1.out⟩, ⟨Nat.lt_of_lt_of_le (box_lt _ _) HB1.out.size⟩, ⟨(HB1.out.cell (box_lt _ _)).trans (box_cell _ _ _)⟩⟩
  case round =>
   obtain ⟨i, rfl, hi, HK, HN, HB, HS, HC⟩ := hrel
   by_cases hlt : i < 5
   ·obtain ⟨lo, hi', he, hix⟩ := marks_at i hlt
    have HE := aS he
    clear he
    have hs := HS.out
    have hc := HC.out
    obtain ⟨b5, h5⟩ : ∃ b, decide (lo ≤ r) = b := ⟨_, rfl⟩
    obtain ⟨b6, h6⟩ : ∃ b, decide (r ≤ hi') = b := ⟨_, rfl⟩
    have HA := aS (And.intro h5 h6)
    by_cases hin : (b5 && b6) = true
    ·obtain ⟨rfl, rfl⟩ : b5 = true ∧ b6 = true := by simpa using hin
     have HR := aS (HW0.out (inL_at HE.out h5 h6))
     clear hin
     go_wp2
     go_ret
     exact ⟨by rw [HR.out]; rfl, (by repeat (first | exact below_step (by repeat (first | exact Below.refl _ _ | apply below_alloc)) HB.out | apply below_alloc | apply pw_below_drewN | apply below_drew1 | (refine Below.setCell ?_ (by simp) _)))⟩
    ·have HX := aS (none_next HN.out HE.out (by rw [h5, h6]; simpa using hin))
     cases b5 <;> cases b6 <;> first | (exfalso; exact hin rfl) | (clear hin; go_wp2; go_roundg (6 - (i + 1)); (case measure => have := HK.out; omega); (case rel => exact ⟨i + 1, by go_num, by omega, ⟨rfl⟩, HX, ⟨(by repeat (first | exact below_step (by repeat (first | exact Below.refl _ _ | apply below_alloc)) HB.out | apply below_alloc | apply pw_below_drewN | apply below_drew1 | (refine Below.setCell ?_ (by simp) _)))⟩, ⟨Nat.lt_of_lt_of_le hs (Below.size (B := wr.heap.size) (w := wr) bE)⟩, ⟨(Below.cell (B := wr.heap.size) (w := wr) bE hs).trans hc⟩⟩))
   ·have HX := aS (none_all (by have : i = 5 := (by omega); rw [this] at HN; exact HN.out))
    obtain rfl : i = 5 := by omega
    have hs := HS.out
    have hc := HC.out
    clear hi hlt HN HC HS
    go_wp2_with (go_at_call 125; refine (wides_any _).mono ?_; rintro x w2 ⟨rfl, hb2⟩; have HB2 := aS (below_step HB.out hb2); have HC2 := aS ((hb2.cell hs).trans hc); have HS2 := aS (Nat.lt_of_lt_of_le hs hb2.size); clear hb2)
    have HXm := HX
    clear HX HB HK hs hc
    go_loopg [33] 12 (fun kq v33 w' => ∃ i : Nat, v33 = .int .i64 i ∧ i ≤ 11 ∧ Aside0 (kq = 12 - i) ∧ Aside0 (NoneOf r wideL i) ∧ Aside0 (Below w.heap.size w w') ∧ Aside0 (w.heap.size < w'.heap.size) ∧ Aside0 (w'.cell? ⟨w.heap.size, 0, none⟩ = some (.int .i32 r)))
    case atStart => exact ⟨0, rfl, by omega, ⟨rfl⟩, ⟨rfl⟩, HB2, HS2, HC2⟩
    case round =>
     obtain ⟨i, rfl, hi, HK, HN, HB, HS, HC⟩ := hrel
     by_cases hlt : i < 11
     ·obtain ⟨lo, hi', he, hix⟩ := wides_at i hlt
      have HE := aS he
      clear he
      have hs := HS.out
      have hc := HC.out
      obtain ⟨b5, h5⟩ : ∃ b, decide (lo ≤ r) = b := ⟨_, rfl⟩
      obtain ⟨b6, h6⟩ : ∃ b, decide (r ≤ hi') = b := ⟨_, rfl⟩
      have HA := aS (And.intro h5 h6)
      by_cases hin : (b5 && b6) = true
      ·obtain ⟨rfl, rfl⟩ : b5 = true ∧ b6 = true := by simpa using hin
       have HR := aS ((HW2.out HXm.out) (inL_at HE.out h5 h6))
       clear hin
       go_wp2
       go_ret
       exact ⟨by rw [HR.out]; rfl, (by repeat (first | exact below_step (by repeat (first | exact Below.refl _ _ | apply below_alloc)) HB.out | apply below_alloc | apply pw_below_drewN | apply below_drew1 | (refine Below.setCell ?_ (by simp) _)))⟩
      ·have HX := aS (none_next HN.out HE.out (by rw [h5, h6]; simpa using hin))
       cases b5 <;> cases b6 <;> first | (exfalso; exact hin rfl) | (clear hin; go_wp2; go_roundg (12 - (i + 1)); (case measure => have := HK.out; omega); (case rel => exact ⟨i + 1, by go_num, by omega, ⟨rfl⟩, HX, ⟨(by repeat (first | exact below_step (by repeat (first | exact Below.refl _ _ | apply below_alloc)) HB.out | apply below_alloc | apply pw_below_drewN | apply below_drew1 | (refine Below.setCell ?_ (by simp) _)))⟩, ⟨Nat.lt_of_lt_of_le hs (Below.size (B := wr.heap.size) (w := wr) bE)⟩, ⟨(Below.cell (B := wr.heap.size) (w := wr) bE hs).trans hc⟩⟩))
     ·have HX := aS (none_all (by have : i = 11 := (by omega); rw [this] at HN; exact HN.out))
      obtain rfl : i = 11 := by omega
      clear hi hlt HN HC HS
      go_wp2
      go_ret
      exact ⟨by rw [HW1.out HXm.out HX.out]; rfl, (by repeat (first | exact below_step (by repeat (first | exact Below.refl _ _ | apply below_alloc)) HB.out | apply below_alloc | apply pw_below_drewN | apply below_drew1 | (refine Below.setCell ?_ (by simp) _)))⟩
end Go.Proofs.Ytblcmcdifgclcaa
namespace Go.Proofs.Ytblcmcdifgclcaa
open Go.RowKit Go.Proofs.YtblcmcdifgclcaaW.PrintWords Go.Proofs.YtblcmcdifgclcaaW.PrintLast Go.Proofs.YtblcmcdifgclcaaW.PrintMore
theorem Of_any (r : Int) (w : World) : Calls Try.prog 84 #[.int .i32 r] w fun x w' => x = .returned (.int .i64 (wOf r)) ∧ Below w.heap.size w w' := by
 by_cases h : r < 32 ∨ (127 ≤ r ∧ r ≤ 159) ∨ scalarZ r = false
 ·exact Of_out r w (by unfold wOf; rw [if_pos h])
 ·refine Of_in' r w _ _ (decide_eq_false (by omega)) rfl rfl (by cases hz : scalarZ r <;> simp_all) ?_
  by_cases a : 127 ≤ r
  ·right; exact decide_eq_false (by omega)
  ·left; exact decide_eq_false a
theorem wp_scope_same {P : Program} {a : Act} {w : World} {Q : Exit → Act → World → Prop} {c : Code} (hQ : ∀ l a w, Q (.goto l) a w → False) (h : c.wp P Q a w) : (Code.scope c).wp P Q a w := by
 intro b k cs
 obtain ⟨e, a₁, w₁, hq, harr⟩ := h b (.inScope c :: k) cs
 cases e with
 | normal => exact ⟨.normal, a₁, w₁, hq, .head step_scope (Steps.trans harr (.one step_inScope))⟩
 | exit id => exact ⟨.exit id, a₁, w₁, hq, fun k' hk => .head step_scope (harr k' (by simp [exitTo, hk]))⟩
 | goto l' => exact absurd hq (fun h => hQ _ _ _ h)
 | ret => exact ⟨_, a₁, w₁, hq, .of_steps (.one step_scope) harr⟩
 | panic ch => exact ⟨_, a₁, w₁, hq, .of_steps (.one step_scope) harr⟩
 | outgrown => exact ⟨_, a₁, w₁, hq, .of_steps (.one step_scope) harr⟩
end Go.Proofs.Ytblcmcdifgclcaa
namespace Go.Proofs.Ytblcmcdifgclcaa
open Go.RowKit Go.Proofs.YtblcmcdifgclcaaW.PrintWords Go.Proofs.YtblcmcdifgclcaaW.PrintLast Go.Proofs.YtblcmcdifgclcaaW.PrintMore
set_option linter.unusedVariables false
set_option linter.unusedSimpArgs false
def markC (c0 c1 c2 c3 c4 c5 c6 r : Int) : Int × Int × Int × Int × Int × Int × Int × Bool :=
 if wOf r = 0 ∧ (c3 = 1 ∨ c3 = 2) then (if c1 = 0 then (c0, r, c2, c3, c4, c5, c6, true) else if c2 = 0 then (c0, c1, r, c3, c4, c5, c6, true) else (c0, c1, c2, c3, c4, c5, c6, false)) else (c0, c1, c2, c3, c4, c5, c6, false)
theorem C_two {W : World} {k : IntKind} {g o : Nat} {a b : Int} (h0 : W.cell? ⟨g, o, none⟩ = some (.int k a)) (h1 : W.cell? ⟨g, o + 1, none⟩ = some (.int k b)) : (Kd.int k).C W (some ⟨g, o, none⟩) [a, b].length [a, b] :=
 Kd.C_of_reads (h1 := fun _ => rfl) (enc := Value.int k) (d := 0) ⟨rfl, by simp, fun _ => ⟨⟨g, o, none⟩, rfl, fun j hj => by
  match j, hj with
  | 0, _ => simpa [Addr.add] using h0
  | 1, _ => simpa [Addr.add] using h1
  | j + 2, h => exact absurd h (by simp)⟩⟩
def index2 (c1 c2 : Int) : Int := if c1 = 0 then 0 else if c2 = 0 then 1 else -1
def Index2 (P : Program) (f : Nat) : Prop := ∀ (c1 c2 : Int) (A : Option Addr) (w : World), (Kd.int .i32).C w A [c1, c2].length [c1, c2] → Calls P f #[.slice A 2 2, .int .i32 0] w fun e w' => e = .returned (.int .i64 (index2 c1 c2)) ∧ ∃ n, w' = w.drewN n
theorem box_next (w : World) (o1 o2 : Obj) : ((w.alloc o1).alloc o2).heap[w.heap.size + 1]? = some o2 := by
 have := blk_new (w.alloc o1) o2
 rwa [show (w.alloc o1).heap.size = w.heap.size + 1 from Array.size_push _] at this
theorem blk_other {w : World} {g g' : Nat} {o : Obj} {i : Nat} {u : Value} (h : w.heap[g]? = some o) (hne : g ≠ g') : (w.setCell ⟨g', i, none⟩ u).heap[g]? = some o := (Below.heap_setCell w _ u g hne).trans h
end Go.Proofs.Ytblcmcdifgclcaa
