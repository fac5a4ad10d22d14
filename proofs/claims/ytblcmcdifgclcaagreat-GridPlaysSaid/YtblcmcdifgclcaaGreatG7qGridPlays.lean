/- GridPlays: what its proof leads to. No condition. -/
import Derived.Test.YtblcmcdifgclcaaGreatG4qGridPlays
import Derived.ChangeKeysEq
import Derived.Test.YtblcmcdifgclcaaGreatRows
import Derived.WalkKit
import Derived.WalkSpells
import Derived.WalkLawsBesides
import Derived.ScopeJumps
import Derived.Great.Walk
import Derived.Deep.WholeRow
import Derived.Test.YtblcmcdifgclcaaGreatG6qGridPlays
namespace Go.Proofs.YtblcmcdifgclcaaGreat
open Go
theorem eqArr2 {P : Program} (d : Nat) (t e : TypeId) (k : IntKind) (ht : P.underlying t = some (.array 2 e)) (he : P.underlying e = some (.int k)) (hs : (P.info? e).map (·.size) = some 1) (x0 y0 x1 y1 : Int) (w : World) :
 (Op.equalIn (d + 2) t (.agg #[.int k x0, .int k x1]) (.agg #[.int k y0, .int k y1])).run P w = .ok (x0 == y0 && (x1 == y1)) w := by
 obtain ⟨i, hi, hz⟩ := Option.map_eq_some_iff.1 hs
 rw [run_equalIn_array w (d + 1) _ _ ht hi]
 have hc : P.cellsOf e = 1 := by simp [Program.cellsOf, hi, hz]
 have h0 : ∀ a b : Int, (Op.equalIn (d + 1) e (.int k a) (.int k b)).run P w = .ok (a == b) w := fun a b => by rw [run_equalIn_int w d e k k _ _ he]
 have p0 : ∀ a b : Int, (part e #[.int k a, .int k b] 0).run P w = .ok (.int k a) w := fun a b => by simp [part, isAgg, run_underlying he]
 have p1 : ∀ a b : Int, (part e #[.int k a, .int k b] 1).run P w = .ok (.int k b) w := fun a b => by simp [part, isAgg, run_underlying he]
 rw [show List.range 2 = [0, 1] from rfl, hc]
 simp only [Op.eqItems, Sem.run_bind, Nat.zero_mul, Nat.one_mul, p0, h0, Result.andThen_ok]
 cases h : (x0 == y0)
 ·simp
 ·simp only [Bool.not_true, Bool.false_eq_true, if_false, Sem.run_bind, p1, h0, Result.andThen_ok, Bool.true_and]
  cases h2 : (x1 == y1) <;> simp
end Go.Proofs.YtblcmcdifgclcaaGreat
namespace Go.Proofs.YtblcmcdifgclcaaGreat
def markL : List (Int × Int) := [(768, 879), (8203, 8207), (8400, 8447), (65024, 65039), (65056, 65071)]
def wideL : List (Int × Int) := [(4352, 4447), (11904, 12350), (12353, 42191), (44032, 55203), (63744, 64255), (65072, 65135), (65280, 65376), (65504, 65510), (127744, 128591), (129280, 129535), (131072, 262141)]
def inL (r : Int) (l : List (Int × Int)) : Bool := l.any (fun x => decide (x.1 ≤ r) && decide (r ≤ x.2))
def scalarZ (r : Int) : Bool := decide (0 ≤ r ∧ r ≤ 1114111) && !decide (55296 ≤ r ∧ r ≤ 57343)
def wOf (r : Int) : Int := if r < 32 ∨ (127 ≤ r ∧ r ≤ 159) ∨ scalarZ r = false then -1 else if inL r markL = true then 0 else if inL r wideL = true then 2 else 1
end Go.Proofs.YtblcmcdifgclcaaGreat
namespace Go.Proofs.YtblcmcdifgclcaaGreat
open Go.RowKit Go.Great Go.Proofs.YtblcmcdifgclcaaGreatW.PrintWords Go.Proofs.YtblcmcdifgclcaaGreatW.PrintLast Go.Proofs.YtblcmcdifgclcaaGreatW.PrintMore
def marksC : Array Value := #[.int .i32 768, .int .i32 879, .int .i32 8203, .int .i32 8207, .int .i32 8400, .int .i32 8447, .int .i32 65024, .int .i32 65039, .int .i32 65056, .int .i32 65071]
def marksZ : Array Value := #[.int .i32 0, .int .i32 0, .int .i32 0, .int .i32 0, .int .i32 0, .int .i32 0, .int .i32 0, .int .i32 0, .int .i32 0, .int .i32 0]
set_option maxRecDepth 100000 in
theorem marks_any (w : World) : Calls Tryz.prog 88 #[] w fun r w' => r = .returned (.agg marksC) ∧ Below w.heap.size w w' := by
 go_enter Tryz.func88, Tryz.ntmps88
 apply wp_seq_k; intro K0 hK0
 apply wp_region_lit
 refine wpList_allocTo rfl _ rfl (.pointer (some ⟨w.heap.size, 0, none⟩)) (.cells marksZ 126) (by kernel_rfl) ?_
 apply wpList_nil
 refine hK0 _ _ ?_
 apply wp_seq_k; intro K1 hK1
 apply wp_region_lit
 iterate 5 (refine wpList_build rfl 123 _ rfl (by kernel_rfl) ?_)
 refine wpList_build rfl 126 _ rfl (by kernel_rfl) ?_
 refine wpList_store_row rfl 126 _ _ rfl w.heap.size marksC (by kernel_rfl) (by kernel_rfl) 126 marksZ (heap_alloc_last w _) (by kernel_rfl) (by kernel_rfl) (by kernel_rfl) ?_
 rw [World.setRow_alloc_new]
 apply wpList_nil
 refine hK1 _ _ ?_
 apply wp_ret
 refine bodyPost_ret (v := .agg marksC) (results_cell_row (p := 0) (by kernel_rfl) _ _ w.heap.size 126 marksC (0, 0) (.array 5 123) (by kernel_rfl) (heap_alloc_last w _) Tryz.underlying126 rfl (by kernel_rfl)) (by kernel_rfl) ⟨rfl, bE⟩
theorem marks_at (i : Nat) (hi : i < 5) : ∃ lo hi : Int, markL[i]? = some (lo, hi) ∧ ∀ W, (Instr.index 126 (.agg marksC) (.int .i64 (i : Int))).run Tryz.prog W = .ok (.agg #[.int .i32 lo, .int .i32 hi]) W := by
 match i, hi with
 | 0, _ => exact ⟨768, 879, rfl, fun W => by kernel_rfl⟩
 | 1, _ => exact ⟨8203, 8207, rfl, fun W => by kernel_rfl⟩
 | 2, _ => exact ⟨8400, 8447, rfl, fun W => by kernel_rfl⟩
 | 3, _ => exact ⟨65024, 65039, rfl, fun W => by kernel_rfl⟩
 | 4, _ => exact ⟨65056, 65071, rfl, fun W => by kernel_rfl⟩
 | i + 5, h => omega
def widesC : Array Value := #[.int .i32 4352, .int .i32 4447, .int .i32 11904, .int .i32 12350, .int .i32 12353, .int .i32 42191, .int .i32 44032, .int .i32 55203, .int .i32 63744, .int .i32 64255, .int .i32 65072, .int .i32 65135, .int .i32 65280, .int .i32 65376, .int .i32 65504, .int .i32 65510, .int .i32 127744, .int .i32 128591, .int .i32 129280, .int .i32 129535, .int .i32 131072, .int .i32 262141]
def widesZ : Array Value := #[.int .i32 0, .int .i32 0, .int .i32 0, .int .i32 0, .int .i32 0, .int .i32 0, .int .i32 0, .int .i32 0, .int .i32 0, .int .i32 0, .int .i32 0, .int .i32 0, .int .i32 0, .int .i32 0, .int .i32 0, .int .i32 0, .int .i32 0, .int .i32 0, .int .i32 0, .int .i32 0, .int .i32 0, .int .i32 0]
set_option maxRecDepth 100000 in
theorem wides_any (w : World) : Calls Tryz.prog 89 #[] w fun r w' => r = .returned (.agg widesC) ∧ Below w.heap.size w w' := by
 go_enter Tryz.func89, Tryz.ntmps89
 apply wp_seq_k; intro K0 hK0
 apply wp_region_lit
 refine wpList_allocTo rfl _ rfl (.pointer (some ⟨w.heap.size, 0, none⟩)) (.cells widesZ 128) (by kernel_rfl) ?_
 apply wpList_nil
 refine hK0 _ _ ?_
 apply wp_seq_k; intro K1 hK1
 apply wp_region_lit
 iterate 11 (refine wpList_build rfl 123 _ rfl (by kernel_rfl) ?_)
 refine wpList_build rfl 128 _ rfl (by kernel_rfl) ?_
 refine wpList_store_row rfl 128 _ _ rfl w.heap.size widesC (by kernel_rfl) (by kernel_rfl) 128 widesZ (heap_alloc_last w _) (by kernel_rfl) (by kernel_rfl) (by kernel_rfl) ?_
 rw [World.setRow_alloc_new]
 apply wpList_nil
 refine hK1 _ _ ?_
 apply wp_ret
 refine bodyPost_ret (v := .agg widesC) (results_cell_row (p := 0) (by kernel_rfl) _ _ w.heap.size 128 widesC (0, 0) (.array 11 123) (by kernel_rfl) (heap_alloc_last w _) Tryz.underlying128 rfl (by kernel_rfl)) (by kernel_rfl) ⟨rfl, bE⟩
theorem wides_at (i : Nat) (hi : i < 11) : ∃ lo hi : Int, wideL[i]? = some (lo, hi) ∧ ∀ W, (Instr.index 128 (.agg widesC) (.int .i64 (i : Int))).run Tryz.prog W = .ok (.agg #[.int .i32 lo, .int .i32 hi]) W := by
 match i, hi with
 | 0, _ => exact ⟨4352, 4447, rfl, fun W => by kernel_rfl⟩
 | 1, _ => exact ⟨11904, 12350, rfl, fun W => by kernel_rfl⟩
 | 2, _ => exact ⟨12353, 42191, rfl, fun W => by kernel_rfl⟩
 | 3, _ => exact ⟨44032, 55203, rfl, fun W => by kernel_rfl⟩
 | 4, _ => exact ⟨63744, 64255, rfl, fun W => by kernel_rfl⟩
 | 5, _ => exact ⟨65072, 65135, rfl, fun W => by kernel_rfl⟩
 | 6, _ => exact ⟨65280, 65376, rfl, fun W => by kernel_rfl⟩
 | 7, _ => exact ⟨65504, 65510, rfl, fun W => by kernel_rfl⟩
 | 8, _ => exact ⟨127744, 128591, rfl, fun W => by kernel_rfl⟩
 | 9, _ => exact ⟨129280, 129535, rfl, fun W => by kernel_rfl⟩
 | 10, _ => exact ⟨131072, 262141, rfl, fun W => by kernel_rfl⟩
 | i + 11, h => omega
end Go.Proofs.YtblcmcdifgclcaaGreat
namespace Go.Proofs.YtblcmcdifgclcaaGreat
open Go.RowKit Go.Proofs.YtblcmcdifgclcaaGreatW.PrintWords Go.Proofs.YtblcmcdifgclcaaGreatW.PrintLast Go.Proofs.YtblcmcdifgclcaaGreatW.PrintMore
set_option linter.unusedVariables false
set_option linter.unusedSimpArgs false
set_option maxHeartbeats 1000000 in
theorem Scalar_any (r : Int) (w : World) : Calls Tryz.prog 87 #[.int .i32 r] w fun x w' => x = .returned (.bool (scalarZ r)) ∧ w' = w := by
 have HS := aS (show scalarZ r = ((decide (0 ≤ r) && decide (r < 55296)) || (decide (57343 < r) && decide (r ≤ 1114111))) by
  unfold scalarZ
  by_cases a : 0 ≤ r <;> by_cases b : r ≤ 1114111 <;> by_cases c : 55296 ≤ r <;> by_cases d : r ≤ 57343 <;> simp [*] <;> omega)
 obtain ⟨b1, h1⟩ : ∃ b, decide (0 ≤ r) = b := ⟨_, rfl⟩
 obtain ⟨b2, h2⟩ : ∃ b, decide (r < 55296) = b := ⟨_, rfl⟩
 obtain ⟨b3, h3⟩ : ∃ b, decide (57343 < r) = b := ⟨_, rfl⟩
 obtain ⟨b4, h4⟩ : ∃ b, decide (r ≤ 1114111) = b := ⟨_, rfl⟩
 rw [h1, h2, h3, h4] at HS
 cases b1 <;> cases b2 <;> cases b3 <;>
  (go_enter Tryz.func87, Tryz.ntmps87
   go_wp2
   go_ret
   exact ⟨by rw [HS.out]; first | rfl | (cases b4 <;> rfl), rfl⟩)
def NoneOf (r : Int) (l : List (Int × Int)) (i : Nat) : Prop := inL r (l.take i) = false
theorem none_next {r lo hi : Int} {l : List (Int × Int)} {i : Nat} (h : NoneOf r l i) (e : l[i]? = some (lo, hi)) (hx : (decide (lo ≤ r) && decide (r ≤ hi)) = false) : NoneOf r l (i + 1) := by
 unfold NoneOf inL at *
 rw [List.take_add_one, e]
 simp only [List.any_append, h, Bool.false_or]
 simpa using hx
theorem inL_at {r lo hi : Int} {l : List (Int × Int)} {i : Nat} (e : l[i]? = some (lo, hi)) (h1 : decide (lo ≤ r) = true) (h2 : decide (r ≤ hi) = true) : inL r l = true := by
 unfold inL
 rw [List.any_eq_true]
 exact ⟨(lo, hi), List.mem_of_getElem? e, by rw [h1, h2]; rfl⟩
theorem none_all {r : Int} {l : List (Int × Int)} (h : NoneOf r l l.length) : inL r l = false := by
 unfold NoneOf at h
 rwa [List.take_length] at h
theorem box_lt (w : World) (o : Obj) : w.heap.size < (w.alloc o).heap.size := by show w.heap.size < (w.heap.push o).size; simp
theorem box_cell (w : World) (v : Value) (t : TypeId) : (w.alloc (.cells #[v] t)).cell? ⟨w.heap.size, 0, none⟩ = some v := by rw [World.cell?_alloc_at _ _ _ _ rfl]; rfl
theorem pick_s {b1 b2 b3 z : Bool} (h : b1 = true ∨ (b2 = true ∧ b3 = true) ∨ z = false) (h1 : b1 = false) (h2 : b2 = false ∨ b3 = false) : z = false := by
 cases b1 <;> cases b2 <;> cases b3 <;> simp_all
set_option maxRecDepth 100000 in
set_option maxHeartbeats 4000000 in
theorem Of_out (r : Int) (w : World) (h : wOf r = -1) : Calls Tryz.prog 55 #[.int .i32 r] w fun x w' => x = .returned (.int .i64 (wOf r)) ∧ Below w.heap.size w w' := by
 have hmf : ∀ (fn : Fn) (first cap : Array Value) (w : World), (Instr.makeFunc fn first cap).run Tryz.prog w = .ok (.func fn first cap) w := fun _ _ _ _ => rfl
 have HW := aS h
 have hs : r < 32 ∨ (127 ≤ r ∧ r ≤ 159) ∨ scalarZ r = false := by
  by_cases g : r < 32 ∨ (127 ≤ r ∧ r ≤ 159) ∨ scalarZ r = false
  ·exact g
  ·exfalso; unfold wOf at h; rw [if_neg g] at h; split at h <;> (try split at h) <;> simp at h
 clear h
 obtain ⟨b1, h1⟩ : ∃ b, decide (r < 32) = b := ⟨_, rfl⟩
 obtain ⟨b2, h2⟩ : ∃ b, decide (127 ≤ r) = b := ⟨_, rfl⟩
 obtain ⟨b3, h3⟩ : ∃ b, decide (r ≤ 159) = b := ⟨_, rfl⟩
 have HS := aS (show b1 = true ∨ (b2 = true ∧ b3 = true) ∨ scalarZ r = false by
  rcases hs with a | ⟨a, b⟩ | a
  ·left; rw [← h1]; simpa using a
  ·right; left; rw [← h2, ← h3]; exact ⟨by simpa using a, by simpa using b⟩
  ·right; right; exact a)
 clear hs
 cases b1 <;> cases b2 <;> cases b3 <;>
  first | (have hz : scalarZ r = false := pick_s HS.out rfl (by first | exact .inl rfl | exact .inr rfl); clear HS; go_enter Tryz.func55, Tryz.ntmps55; go_wp2_with (go_at_call 87; refine (Scalar_any r _).mono ?_; rintro x w' ⟨rfl, hw⟩; obtain rfl := hw.symm); go_ret; exact ⟨by rw [HW.out]; rfl, bE⟩) | (clear HS; go_enter Tryz.func55, Tryz.ntmps55; go_wp2; go_ret; exact ⟨by rw [HW.out]; rfl, bE⟩)
set_option maxRecDepth 100000 in
set_option maxHeartbeats 8000000 in
theorem Of_in' (r : Int) (w : World) (b2 b3 : Bool) (h1 : decide (r < 32) = false) (h2 : decide (127 ≤ r) = b2) (h3 : decide (r ≤ 159) = b3) (hz : scalarZ r = true) (hq : b2 = false ∨ b3 = false) :
 Calls Tryz.prog 55 #[.int .i32 r] w fun x w' => x = .returned (.int .i64 (wOf r)) ∧ Below w.heap.size w w' := by
 have hmf : ∀ (fn : Fn) (first cap : Array Value) (w : World), (Instr.makeFunc fn first cap).run Tryz.prog w = .ok (.func fn first cap) w := fun _ _ _ _ => rfl
 have hu91 := Tryz.underlying123
 have hd : ¬ (r < 32 ∨ (127 ≤ r ∧ r ≤ 159) ∨ scalarZ r = false) := by
  intro h
  rcases h with h | ⟨ha, hb⟩ | h
  ·rw [decide_eq_false_iff_not] at h1; exact h1 h
  ·rw [decide_eq_true ha] at h2; rw [decide_eq_true hb] at h3; rcases hq with h | h <;> simp_all
  ·rw [hz] at h; cases h
 have hw0 : wOf r = if inL r markL = true then 0 else if inL r wideL = true then 2 else 1 := by unfold wOf; rw [if_neg hd]
 have HW0 := aS (show inL r markL = true → wOf r = 0 from fun h => by rw [hw0, if_pos h])
 have HW2 := aS (show inL r markL = false → inL r wideL = true → wOf r = 2 from fun h h' => by rw [hw0, h, h']; rfl)
 have HW1 := aS (show inL r markL = false → inL r wideL = false → wOf r = 1 from fun h h' => by rw [hw0, h, h']; rfl)
 clear hd hw0
 have HQ := aS hq
 clear hq
 cases b2 <;> cases b3
 case true.true => exact absurd HQ.out (by decide)
 all_goals clear HQ
 all_goals go_enter Tryz.func55, Tryz.ntmps55
 all_goals go_wp2_with (first | (go_at_call 87; refine (Scalar_any r _).mono ?_; rintro x w' ⟨rfl, hw⟩; obtain rfl := hw.symm) | (go_at_call 88; refine (marks_any _).mono ?_; rintro x w1 ⟨rfl, hb1⟩; have HB1 := aS hb1; clear hb1))
 all_goals
  go_loopg [25] 6 (fun kq v25 w' => ∃ i : Nat, v25 = .int .i64 i ∧ i ≤ 5 ∧ Aside0 (kq = 6 - i) ∧ Aside0 (NoneOf r markL i) ∧ Aside0 (Below w.heap.size w w') ∧ Aside0 (w.heap.size < w'.heap.size) ∧ Aside0 (w'.cell? ⟨w.heap.size, 0, none⟩ = some (.int .i32 r)))
  case atStart => exact ⟨0, rfl, by omega, ⟨rfl⟩, ⟨rfl⟩, ⟨below_step (below_alloc (Below.refl _ _) _) HB1.out⟩, ⟨Nat.lt_of_lt_of_le (box_lt _ _) HB1.out.size⟩, ⟨(HB1.out.cell (box_lt _ _)).trans (box_cell _ _ _)⟩⟩
  case round =>
   obtain ⟨i, rfl, hi, HK, HN, HB, HS, HC⟩ := hrel
   by_cases hlt : i < 5
   ·obtain ⟨lo, hi', he, hix⟩ := marks_at i hlt
    have HE := aS he
    clear he
    have hs := HS.out
    have hc := HC.out
    obtain ⟨b5, h5⟩ : ∃ b, decide (lo ≤ r) = b := ⟨_, rfl⟩
    obtain ⟨b6, h6⟩ : ∃ b, decide (r ≤ hi') = b := ⟨_, rfl⟩
    have HA := aS (And.intro h5 h6)
    by_cases hin : (b5 && b6) = true
    ·obtain ⟨rfl, rfl⟩ : b5 = true ∧ b6 = true := by simpa using hin
     have HR := aS (HW0.out (inL_at HE.out h5 h6))
     clear hin
     go_wp2
     go_ret
     exact ⟨by rw [HR.out]; rfl, (by repeat (first | exact below_step (by repeat (first | exact Below.refl _ _ | apply below_alloc)) HB.out | apply below_alloc | apply pw_below_drewN | apply below_drew1 | (refine Below.setCell ?_ (by simp) _)))⟩
    ·have HX := aS (none_next HN.out HE.out (by rw [h5, h6]; simpa using hin))
     cases b5 <;> cases b6 <;> first | (exfalso; exact hin rfl) | (clear hin; go_wp2; go_roundg (6 - (i + 1)); (case measure => have := HK.out; omega); (case rel => exact ⟨i + 1, by go_num, by omega, ⟨rfl⟩, HX, ⟨(by repeat (first | exact below_step (by repeat (first | exact Below.refl _ _ | apply below_alloc)) HB.out | apply below_alloc | apply pw_below_drewN | apply below_drew1 | (refine Below.setCell ?_ (by simp) _)))⟩, ⟨Nat.lt_of_lt_of_le hs (Below.size (B := wr.heap.size) (w := wr) bE)⟩, ⟨(Below.cell (B := wr.heap.size) (w := wr) bE hs).trans hc⟩⟩))
   ·have HX := aS (none_all (by have : i = 5 := (by omega); rw [this] at HN; exact HN.out))
    obtain rfl : i = 5 := by omega
    have hs := HS.out
    have hc := HC.out
    clear hi hlt HN HC HS
    go_wp2_with (go_at_call 89; refine (wides_any _).mono ?_; rintro x w2 ⟨rfl, hb2⟩; have HB2 := aS (below_step HB.out hb2); have HC2 := aS ((hb2.cell hs).trans hc); have HS2 := aS (Nat.lt_of_lt_of_le hs hb2.size); clear hb2)
    have HXm := HX
    clear HX HB HK hs hc
    go_loopg [33] 12 (fun kq v33 w' => ∃ i : Nat, v33 = .int .i64 i ∧ i ≤ 11 ∧ Aside0 (kq = 12 - i) ∧ Aside0 (NoneOf r wideL i) ∧ Aside0 (Below w.heap.size w w') ∧ Aside0 (w.heap.size < w'.heap.size) ∧ Aside0 (w'.cell? ⟨w.heap.size, 0, none⟩ = some (.int .i32 r)))
    case atStart => exact ⟨0, rfl, by omega, ⟨rfl⟩, ⟨rfl⟩, HB2, HS2, HC2⟩
    case round =>
     obtain ⟨i, rfl, hi, HK, HN, HB, HS, HC⟩ := hrel
     by_cases hlt : i < 11
     ·obtain ⟨lo, hi', he, hix⟩ := wides_at i hlt
      have HE := aS he
      clear he
      have hs := HS.out
      have hc := HC.out
      obtain ⟨b5, h5⟩ : ∃ b, decide (lo ≤ r) = b := ⟨_, rfl⟩
      obtain ⟨b6, h6⟩ : ∃ b, decide (r ≤ hi') = b := ⟨_, rfl⟩
      have HA := aS (And.intro h5 h6)
      by_cases hin : (b5 && b6) = true
      ·obtain ⟨rfl, rfl⟩ : b5 = true ∧ b6 = true := by simpa using hin
       have HR := aS ((HW2.out HXm.out) (inL_at HE.out h5 h6))
       clear hin
       go_wp2
       go_ret
       exact ⟨by rw [HR.out]; rfl, (by repeat (first | exact below_step (by repeat (first | exact Below.refl _ _ | apply below_alloc)) HB.out | apply below_alloc | apply pw_below_drewN | apply below_drew1 | (refine Below.setCell ?_ (by simp) _)))⟩
      ·have HX := aS (none_next HN.out HE.out (by rw [h5, h6]; simpa using hin))
       cases b5 <;> cases b6 <;> first | (exfalso; exact hin rfl) | (clear hin; go_wp2; go_roundg (12 - (i + 1)); (case measure => have := HK.out; omega); (case rel => exact ⟨i + 1, by go_num, by omega, ⟨rfl⟩, HX, ⟨(by repeat (first | exact below_step (by repeat (first | exact Below.refl _ _ | apply below_alloc)) HB.out | apply below_alloc | apply pw_below_drewN | apply below_drew1 | (refine Below.setCell ?_ (by simp) _)))⟩, ⟨Nat.lt_of_lt_of_le hs (Below.size (B := wr.heap.size) (w := wr) bE)⟩, ⟨(Below.cell (B := wr.heap.size) (w := wr) bE hs).trans hc⟩⟩))
     ·have HX := aS (none_all (by have : i = 11 := (by omega); rw [this] at HN; exact HN.out))
      obtain rfl : i = 11 := by omega
      clear hi hlt HN HC HS
      go_wp2
      go_ret
      exact ⟨by rw [HW1.out HXm.out HX.out]; rfl, (by repeat (first | exact below_step (by repeat (first | exact Below.refl _ _ | apply below_alloc)) HB.out | apply below_alloc | apply pw_below_drewN | apply below_drew1 | (refine Below.setCell ?_ (by simp) _)))⟩
end Go.Proofs.YtblcmcdifgclcaaGreat
namespace Go.Proofs.YtblcmcdifgclcaaGreat
open Go.RowKit Go.Proofs.YtblcmcdifgclcaaGreatW.PrintWords Go.Proofs.YtblcmcdifgclcaaGreatW.PrintLast Go.Proofs.YtblcmcdifgclcaaGreatW.PrintMore
theorem Of_any (r : Int) (w : World) : Calls Tryz.prog 55 #[.int .i32 r] w fun x w' => x = .returned (.int .i64 (wOf r)) ∧ Below w.heap.size w w' := by
 by_cases h : r < 32 ∨ (127 ≤ r ∧ r ≤ 159) ∨ scalarZ r = false
 ·exact Of_out r w (by unfold wOf; rw [if_pos h])
 ·refine Of_in' r w _ _ (decide_eq_false (by omega)) rfl rfl (by cases hz : scalarZ r <;> simp_all) ?_
  by_cases a : 127 ≤ r
  ·right; exact decide_eq_false (by omega)
  ·left; exact decide_eq_false a
theorem wp_scope_same {P : Program} {a : Act} {w : World} {Q : Exit → Act → World → Prop} {c : Code} (hQ : ∀ l a w, Q (.goto l) a w → False) (h : c.wp P Q a w) : (Code.scope c).wp P Q a w := by
 intro b k cs
 obtain ⟨e, a₁, w₁, hq, harr⟩ := h b (.inScope c :: k) cs
 cases e with
 | normal => exact ⟨.normal, a₁, w₁, hq, .head step_scope (Steps.trans harr (.one step_inScope))⟩
 | exit id => exact ⟨.exit id, a₁, w₁, hq, fun k' hk => .head step_scope (harr k' (by simp [exitTo, hk]))⟩
 | goto l' => exact absurd hq (fun h => hQ _ _ _ h)
 | ret => exact ⟨_, a₁, w₁, hq, .of_steps (.one step_scope) harr⟩
 | panic ch => exact ⟨_, a₁, w₁, hq, .of_steps (.one step_scope) harr⟩
 | outgrown => exact ⟨_, a₁, w₁, hq, .of_steps (.one step_scope) harr⟩
end Go.Proofs.YtblcmcdifgclcaaGreat
