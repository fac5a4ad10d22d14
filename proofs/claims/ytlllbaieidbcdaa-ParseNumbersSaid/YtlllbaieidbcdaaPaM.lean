/- The numbers of an event, by the program and the document; an event as the document's; events as arguments. -/
import Derived.Test.YtlllbaieidbcdaaPaL
import Derived.Test.YtlllbaieidbcdaaOpn
namespace Go.Proofs.Ytlllbaieidbcdaa.Str
open Go.ChangeShapes Go.WideShapes Go.RowKit Go.Proofs.Ytlllbaieidbcdaa Go.Proofs.Ytlllbaieidbcdaa.PParseEvents Go.Proofs.YtlllbaieidbcdaaW.PrintWords Go.Proofs.YtlllbaieidbcdaaW.PrintLast Go.Proofs.YtlllbaieidbcdaaW.PrintMore
set_option linter.unusedVariables false
set_option linter.unusedSimpArgs false
def numV (n : List Int) (i none : Int) : Int := if i < 0 ∨ (n.length : Int) ≤ i ∨ rd n i = -1 then none else rd n i
set_option maxRecDepth 100000 in
set_option maxHeartbeats 4000000 in
theorem Number_any (k r : Int) (A : Option Addr) (c : Nat) (n : List Int) (i none : Int) (W : World) (hC : Kd.C (Kd.int .i64) W A n.length n) {v : Int} (hv : numV n i none = v) :
    Calls Try.prog 16 #[.agg #[.int .i64 k, .int .i32 r, .slice A n.length c], .int .i64 i, .int .i64 none] W fun e w' => e = .returned (.int .i64 v) ∧ Below W.heap.size W w' := by
  by_cases h0 : i < 0
  · have hT : decide (i < 0) = true := decide_eq_true h0
    obtain rfl : none = v := by rw [← hv]; unfold numV; rw [if_pos (.inl h0)]
    clear hC hv h0
    go_enter Try.func16, Try.ntmps16
    go_wp2
    all_goals go_ret
    all_goals exact ⟨rfl, (by repeat (first | exact Below.refl _ _ | apply below_alloc | apply pw_below_drewN | apply below_drew1 | (refine Below.setCell ?_ (by simp) _)))⟩
  have hT : decide (i < 0) = false := decide_eq_false h0
  by_cases h1 : (n.length : Int) ≤ i
  · have hT1 : decide (i ≥ (n.length : Int)) = true := decide_eq_true h1
    obtain rfl : none = v := by rw [← hv]; unfold numV; rw [if_pos (.inr (.inl h1))]
    clear hC hv h0 h1
    go_enter Try.func16, Try.ntmps16
    go_wp2
    all_goals go_ret
    all_goals exact ⟨rfl, (by repeat (first | exact Below.refl _ _ | apply below_alloc | apply pw_below_drewN | apply below_drew1 | (refine Below.setCell ?_ (by simp) _)))⟩
  have hT1 : decide (i ≥ (n.length : Int)) = false := decide_eq_false h1
  obtain ⟨ad, rfl, hc⟩ := Kd.at_int hC i (by omega) (by omega)
  have hc' := fun o => (World.cell?_alloc_lt _ o _ (World.block_lt_of_cell? _ _ hc)).trans hc
  have h0' : 0 ≤ i := by omega
  have h1' : i < (n.length : Int) := by omega
  obtain ⟨x, hx⟩ : ∃ x, rd n i = x := ⟨_, rfl⟩
  rw [hx] at hc hc'
  by_cases h2 : x = -1
  · subst h2
    obtain rfl : none = v := by rw [← hv]; unfold numV; rw [if_pos (.inr (.inr hx))]
    clear hC hv h0 h1 hx
    go_enter Try.func16, Try.ntmps16
    go_wp2
    all_goals go_ret
    all_goals exact ⟨rfl, (by repeat (first | exact Below.refl _ _ | apply below_alloc | apply pw_below_drewN | apply below_drew1 | (refine Below.setCell ?_ (by simp) _)))⟩
  · have hT2 : (x == -1) = false := by rw [beq_eq_false_iff_ne]; exact h2
    obtain rfl : x = v := by rw [← hv]; unfold numV; rw [hx, if_neg (fun h => h.elim h0 (fun h => h.elim h1 h2))]
    clear hC hv h0 h1 hx
    go_enter Try.func16, Try.ntmps16
    go_wp2
    all_goals go_ret
    all_goals exact ⟨rfl, (by repeat (first | exact Below.refl _ _ | apply below_alloc | apply pw_below_drewN | apply below_drew1 | (refine Below.setCell ?_ (by simp) _)))⟩
set_option maxRecDepth 100000 in
set_option maxHeartbeats 4000000 in
theorem RNumber_any (k r : Int) (A : Option Addr) (c : Nat) (n : List Int) (i none : Int) (W : World) (hC : Kd.C (Kd.int .i64) W A n.length n) {v : Int} (hv : numV n i none = v) :
    Calls Try.prog 17 #[.agg #[.int .i64 k, .int .i64 r, .slice A n.length c], .int .i64 i, .int .i64 none] W fun e w' => e = .returned (.int .i64 v) ∧ Below W.heap.size W w' := by
  by_cases h0 : i < 0
  · have hT : decide (i < 0) = true := decide_eq_true h0
    obtain rfl : none = v := by rw [← hv]; unfold numV; rw [if_pos (.inl h0)]
    clear hC hv h0
    go_enter Try.func17, Try.ntmps17
    go_wp2
    all_goals go_ret
    all_goals exact ⟨rfl, (by repeat (first | exact Below.refl _ _ | apply below_alloc | apply pw_below_drewN | apply below_drew1 | (refine Below.setCell ?_ (by simp) _)))⟩
  have hT : decide (i < 0) = false := decide_eq_false h0
  by_cases h1 : (n.length : Int) ≤ i
  · have hT1 : decide (i ≥ (n.length : Int)) = true := decide_eq_true h1
    obtain rfl : none = v := by rw [← hv]; unfold numV; rw [if_pos (.inr (.inl h1))]
    clear hC hv h0 h1
    go_enter Try.func17, Try.ntmps17
    go_wp2
    all_goals go_ret
    all_goals exact ⟨rfl, (by repeat (first | exact Below.refl _ _ | apply below_alloc | apply pw_below_drewN | apply below_drew1 | (refine Below.setCell ?_ (by simp) _)))⟩
  have hT1 : decide (i ≥ (n.length : Int)) = false := decide_eq_false h1
  obtain ⟨ad, rfl, hc⟩ := Kd.at_int hC i (by omega) (by omega)
  have hc' := fun o => (World.cell?_alloc_lt _ o _ (World.block_lt_of_cell? _ _ hc)).trans hc
  have h0' : 0 ≤ i := by omega
  have h1' : i < (n.length : Int) := by omega
  obtain ⟨x, hx⟩ : ∃ x, rd n i = x := ⟨_, rfl⟩
  rw [hx] at hc hc'
  by_cases h2 : x = -1
  · subst h2
    obtain rfl : none = v := by rw [← hv]; unfold numV; rw [if_pos (.inr (.inr hx))]
    clear hC hv h0 h1 hx
    go_enter Try.func17, Try.ntmps17
    go_wp2
    all_goals go_ret
    all_goals exact ⟨rfl, (by repeat (first | exact Below.refl _ _ | apply below_alloc | apply pw_below_drewN | apply below_drew1 | (refine Below.setCell ?_ (by simp) _)))⟩
  · have hT2 : (x == -1) = false := by rw [beq_eq_false_iff_ne]; exact h2
    obtain rfl : x = v := by rw [← hv]; unfold numV; rw [hx, if_neg (fun h => h.elim h0 (fun h => h.elim h1 h2))]
    clear hC hv h0 h1 hx
    go_enter Try.func17, Try.ntmps17
    go_wp2
    all_goals go_ret
    all_goals exact ⟨rfl, (by repeat (first | exact Below.refl _ _ | apply below_alloc | apply pw_below_drewN | apply below_drew1 | (refine Below.setCell ?_ (by simp) _)))⟩
set_option maxRecDepth 100000 in
set_option maxHeartbeats 4000000 in
theorem Of_any (k r : Int) (u : Value) (hu : ∃ A l c, u = .slice A l c) (W : World) (hr : -2147483648 ≤ r ∧ r ≤ 2147483647) :
    Calls Try.prog 15 #[.agg #[.int .i64 k, .int .i32 r, u]] W fun e w' => e = .returned (.agg #[.int .i64 k, .int .i64 r, u]) ∧ Below W.heap.size W w' := by
  obtain ⟨A, l, c, rfl⟩ := hu
  have hw : IntKind.i64.wrap r = r := by rw [i64_w, w64 (by omega) (by omega)]
  have hw2 : wrap64 r = r := w64 (by omega) (by omega)
  go_enter Try.func15, Try.ntmps15
  go_wp2
  refine bodyPost_ret (results_cell_row rfl _ _ (W.heap.size + 1) 48 #[.int .i64 k, .int .i64 r, .slice A l c] (0, 0) _ rfl (by have := blk_new (W.alloc (.cells #[.int .i64 k, .int .i32 r, .slice A l c] 46)) (.cells #[.int .i64 k, .int .i64 r, .slice A l c] 48); rwa [alloc_size1] at this) Try.underlying48 rfl (by kernel_rfl)) rfl ?_
  exact ⟨rfl, (by repeat (first | exact Below.refl _ _ | apply below_alloc | apply pw_below_drewN | apply below_drew1 | (refine Below.setCell ?_ (by simp) _)))⟩
abbrev kd3 : Kd (Int × Int × List Int) := Kd.pair (Kd.int .i64) (Kd.pair (Kd.int .i32) (Kd.slice 3 (Kd.int .i64)))
abbrev wf3 (x : Int × Int × List Int) : Prop := (Lit.int .i64 x.1).wf = true ∧ (Lit.int .i32 x.2.1).wf = true ∧ ∀ y ∈ x.2.2, (Lit.int .i64 y).wf = true
def mk3 (x : Int × Int × List Int) : S46 := ⟨x.1, x.2.1, x.2.2⟩
theorem opn_Ev : Opn Try.prog 46 kd3 wf3 := by
  refine @Opn.struct _ _ _ _ _ _ Try.underlying46 (by kernel_rfl) ?_
  refine @Flds.cons _ _ _ _ _ _ _ _ (fun n : Int => (Lit.int .i64 n).wf = true) (fun x : Int × List Int => (Lit.int .i32 x.1).wf = true ∧ ∀ y ∈ x.2, (Lit.int .i64 y).wf = true) ?_ ?_ ?_
  · exact @Opn.int _ _ _ Try.underlying3
  · exact ⟨rfl, by kernel_rfl⟩
  · refine @Flds.cons _ _ _ _ _ _ _ _ (fun n : Int => (Lit.int .i32 n).wf = true) (fun l : List Int => ∀ y ∈ l, (Lit.int .i64 y).wf = true) ?_ ?_ ?_
    · exact @Opn.int _ _ _ Try.underlying21
    · exact ⟨rfl, by kernel_rfl⟩
    · refine @Flds.one _ _ _ _ _ _ ?_ ?_
      · exact Opn.slice (d := Kd.int .i64) Try.underlying26 (by kernel_rfl) (Opn.int Try.underlying3)
      · exact ⟨rfl, by kernel_rfl⟩
theorem ev_arg {base : Nat} {w : World} {v : Value} {x : Int × Int × List Int} (hv : Value.okWide Try.prog w .any base 46 v) (hK : kd3.K w x v.cells.toList) : ∃ A c, v = .agg #[.int .i64 x.1, .int .i32 x.2.1, .slice A x.2.2.length c] ∧ x.2.2.length ≤ c ∧ Kd.C (Kd.int .i64) w A x.2.2.length x.2.2 := by
  obtain ⟨cs, rfl, _⟩ := okWide_struct Try.underlying46 hv
  obtain ⟨e0, e1, he, h0, e2, e3, he1, h1, A, c, he3, hc, hC⟩ := hK
  simp [Kd.int, Kd.scalar] at h0 h1
  subst h0 h1 he1 he3
  simp only [Value.cells] at he
  refine ⟨A, c, ?_, hc, hC⟩
  congr 1
  exact Array.toList_inj.1 (by rw [he]; rfl)
theorem C_mk3 {W : World} {A : Option Addr} {n : Nat} {xs : List (Int × Int × List Int)} (h : Kd.C kd3 W A n xs) : Kd.C kEv W A n (xs.map mk3) := by
  refine ⟨by rw [List.length_map]; exact h.1, h.2.1, fun hn => ?_⟩
  obtain ⟨ad, ha, hr⟩ := h.2.2 hn
  refine ⟨ad, ha, fun j p hp => ?_⟩
  rw [List.getElem?_map] at hp
  obtain ⟨x, hx, rfl⟩ := Option.map_eq_some_iff.1 hp
  exact hr j x hx
end Go.Proofs.Ytlllbaieidbcdaa.Str
