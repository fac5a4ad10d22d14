/- key.Moves: the walk. -/
import Derived.Test.YtglcopljhanhmaaKeyF
namespace Go.Proofs.Ytglcopljhanhmaa
open Go.RowKit Go.Proofs.YtglcopljhanhmaaW.PrintWords Go.Proofs.YtglcopljhanhmaaW.PrintLast Go.Proofs.YtglcopljhanhmaaW.PrintMore
set_option linter.unusedVariables false
set_option linter.unusedSimpArgs false
def stepK (k : Int) : Int × Int := if k = 1 then (0, 1) else if k = 2 then (0, -1) else if k = 3 then (0, -1) else if k = 4 then (0, 1) else if k = 5 then (-1, 0) else if k = 6 then (1, 0) else (0, 0)
def movesK (k r : Int) : Int × Int := if k = 1 ∧ plainK r = false then (0, 0) else stepK k
abbrev stepV (a b : Int) : Value := .agg #[.int .i64 a, .int .i64 b]
def movesEs : Array MapEntry := #[⟨.int .i64 1, stepV 0 1, 0⟩, ⟨.int .i64 2, stepV 0 (-1), 1⟩, ⟨.int .i64 3, stepV 0 (-1), 2⟩, ⟨.int .i64 4, stepV 0 1, 3⟩, ⟨.int .i64 5, stepV (-1) 0, 4⟩, ⟨.int .i64 6, stepV 1 0, 5⟩]
theorem run_checkKey_int {P : Program} {k : TypeId} {q : IntKind} (hk : P.underlying k = some (.int q)) (b : Bool) (n : Nat) (s : Int) (w : World) : (Instr.checkKey b (n + 1) k (.int q s)).run P w = .ok () w := by
  simp [Instr.checkKey, run_underlying hk]
theorem run_findKey_int {P : Program} {k : TypeId} {q : IntKind} (hk : P.underlying k = some (.int q)) (s : Int) (es : List MapEntry) (w : World) {r : Option (Nat × Value)} (h : Instr.findNow (.int q) (.int q s) es 0 = some r) : (Instr.findKey k (.int q s) es).run P w = .ok r w := by
  simp [Instr.findKey, run_underlying hk, h]
theorem map_insert_int {P : Program} {t k e : TypeId} {q : IntKind} (ht : P.underlying t = some (.map k e)) (hk : P.underlying k = some (.int q)) (w : World) (g : Nat) (es : Array MapEntry) (c : Nat) (s : Int) (v : Value) (hb : w.heap[g]? = some (.map es c)) (hn : Instr.findNow (.int q) (.int q s) es.toList 0 = some none) :
    ∃ w', (Instr.mapUpdate t (.map (some g)) (.int q s) v).run P w = .ok () w' ∧ w'.heap[g]? = some (.map (es.push ⟨.int q s, v, c⟩) (c + 1)) ∧ w.grownBy w' (some g) := by
  have hlt : g < w.heap.size := (Array.getElem?_eq_some_iff.1 hb).1
  refine ⟨{ w with heap := w.heap.setIfInBounds g (.map (es.push ⟨.int q s, v, c⟩) (c + 1)) }, ?_, ?_, ⟨rfl, rfl, rfl, by simp, fun i _ hi => ?_⟩⟩
  · simp [Instr.mapUpdate, run_underlying ht, MapKept.run_getObj_map hb, run_checkKey_int hk, run_findKey_int hk s _ _ hn, MapKept.run_setObj_map _ hb, Result.andThen]
  · simp [hlt]
  · have : g ≠ i := fun e => hi (by rw [e])
    simp [this]
theorem mapM : Try.prog.underlying 101 = some (.map 3 100) := by kernel_rfl
theorem zero_step (w : World) : (zeroValue 100).run Try.prog w = .ok (stepV 0 0) w := by kernel_rfl
theorem moves_map (W : World) : ∃ w1 w2 w3 w4 w5 w6 : World, (Instr.mapUpdate 101 (.map (some W.heap.size)) (.int .i64 1) (stepV 0 1)).run Try.prog (W.alloc (.map #[] 0)) = .ok () w1 ∧
    (Instr.mapUpdate 101 (.map (some W.heap.size)) (.int .i64 2) (stepV 0 (-1))).run Try.prog w1 = .ok () w2 ∧ (Instr.mapUpdate 101 (.map (some W.heap.size)) (.int .i64 3) (stepV 0 (-1))).run Try.prog w2 = .ok () w3 ∧
    (Instr.mapUpdate 101 (.map (some W.heap.size)) (.int .i64 4) (stepV 0 1)).run Try.prog w3 = .ok () w4 ∧ (Instr.mapUpdate 101 (.map (some W.heap.size)) (.int .i64 5) (stepV (-1) 0)).run Try.prog w4 = .ok () w5 ∧
    (Instr.mapUpdate 101 (.map (some W.heap.size)) (.int .i64 6) (stepV 1 0)).run Try.prog w5 = .ok () w6 ∧ w6.heap[W.heap.size]? = some (.map movesEs 6) ∧ Below W.heap.size W w6 := by
  have h0 : (W.alloc (.map #[] 0)).heap[W.heap.size]? = some (.map #[] 0) := blk_new W _
  obtain ⟨w1, r1, h1, g1⟩ := map_insert_int (P := Try.prog) mapM Try.underlying3 _ _ _ _ 1 (stepV 0 1) h0 rfl
  obtain ⟨w2, r2, h2, g2⟩ := map_insert_int (P := Try.prog) mapM Try.underlying3 _ _ _ _ 2 (stepV 0 (-1)) h1 rfl
  obtain ⟨w3, r3, h3, g3⟩ := map_insert_int (P := Try.prog) mapM Try.underlying3 _ _ _ _ 3 (stepV 0 (-1)) h2 rfl
  obtain ⟨w4, r4, h4, g4⟩ := map_insert_int (P := Try.prog) mapM Try.underlying3 _ _ _ _ 4 (stepV 0 1) h3 rfl
  obtain ⟨w5, r5, h5, g5⟩ := map_insert_int (P := Try.prog) mapM Try.underlying3 _ _ _ _ 5 (stepV (-1) 0) h4 rfl
  obtain ⟨w6, r6, h6, g6⟩ := map_insert_int (P := Try.prog) mapM Try.underlying3 _ _ _ _ 6 (stepV 1 0) h5 rfl
  refine ⟨w1, w2, w3, w4, w5, w6, r1, r2, r3, r4, r5, r6, h6, ?_⟩
  have b0 : Below W.heap.size W (W.alloc (.map #[] 0)) := below_alloc (Below.refl _ _) _
  have up : ∀ {a b : World}, Below W.heap.size W a → a.grownBy b (some W.heap.size) → Below W.heap.size W b := fun ha hg => below_grown_ge ha hg (Nat.le_refl _)
  exact up (up (up (up (up (up b0 g1) g2) g3) g4) g5) g6
theorem moves_look (w : World) (g : Nat) (hb : w.heap[g]? = some (.map movesEs 6)) (k : Int) : (Instr.lookup 101 (.map (some g)) (.int .i64 k) false).run Try.prog w = .ok (stepV (stepK k).1 (stepK k).2) w := by
  have hf : ∃ r : Option (Nat × Value), Instr.findNow (.int .i64) (.int .i64 k) movesEs.toList 0 = some r ∧ (match r with | some (_, v) => v | none => stepV 0 0) = stepV (stepK k).1 (stepK k).2 := by
    by_cases h1 : k = 1
    · subst h1; exact ⟨_, rfl, rfl⟩
    by_cases h2 : k = 2
    · subst h2; exact ⟨_, rfl, rfl⟩
    by_cases h3 : k = 3
    · subst h3; exact ⟨_, rfl, rfl⟩
    by_cases h4 : k = 4
    · subst h4; exact ⟨_, rfl, rfl⟩
    by_cases h5 : k = 5
    · subst h5; exact ⟨_, rfl, rfl⟩
    by_cases h6 : k = 6
    · subst h6; exact ⟨_, rfl, rfl⟩
    refine ⟨none, ?_, ?_⟩
    · have e1 : (k == 1) = false := beq_eq_false_iff_ne.2 h1
      have e2 : (k == 2) = false := beq_eq_false_iff_ne.2 h2
      have e3 : (k == 3) = false := beq_eq_false_iff_ne.2 h3
      have e4 : (k == 4) = false := beq_eq_false_iff_ne.2 h4
      have e5 : (k == 5) = false := beq_eq_false_iff_ne.2 h5
      have e6 : (k == 6) = false := beq_eq_false_iff_ne.2 h6
      simp only [movesEs, Instr.findNow, Instr.sameNow, e1, e2, e3, e4, e5, e6, if_true]
    · unfold stepK; rw [if_neg h1, if_neg h2, if_neg h3, if_neg h4, if_neg h5, if_neg h6]
  obtain ⟨r, hr, hv⟩ := hf
  have hq := run_findKey_int (P := Try.prog) Try.underlying3 k movesEs.toList w hr
  rw [← hv]
  cases r with
  | none => simp [Instr.lookup, run_underlying mapM, MapKept.run_getObj_map hb, run_checkKey_int Try.underlying3, hq, Result.andThen, zero_step]
  | some p => simp [Instr.lookup, run_underlying mapM, MapKept.run_getObj_map hb, run_checkKey_int Try.underlying3, hq, Result.andThen]
set_option maxHeartbeats 4000000 in
set_option maxRecDepth 100000 in
theorem Moves_walk (hP : ∀ (r : Int) (w : World), Calls Try.prog 39 #[.int .i32 r] w fun e w' => e = .returned (.bool (plainK r)) ∧ Below w.heap.size w w')
    (k r a b : Int) (w : World) (hq : movesK k r = (a, b)) : Calls Try.prog 51 #[.agg #[.int .i64 k, .int .i32 r]] w fun e w' => e = .returned (.tuple #[.int .i64 a, .int .i64 b]) ∧ Below w.heap.size w w' := by
  have HX := Aside0.mk (show (w.alloc (.cells #[.int .i64 k, .int .i32 r] 70)).heap[w.heap.size]? = some (.cells #[.int .i64 k, .int .i32 r] 70 (0, 0)) from blk_new w _)
  have HB0 := Aside0.mk (show Below w.heap.size w (w.alloc (.cells #[.int .i64 k, .int .i32 r] 70)) from below_alloc (Below.refl _ _) _)
  have HP := Aside0.mk (hP r)
  have hmm := @run_makeMap Try.prog
  unfold movesK at hq
  obtain ⟨⟨a0, b0⟩, hst⟩ : ∃ p, stepK k = p := ⟨_, rfl⟩
  obtain ⟨pp, hpp⟩ : ∃ v, plainK r = v := ⟨_, rfl⟩
  rw [hst, hpp] at hq
  rw [hpp] at HP
  have HST := Aside0.mk (show stepK k = (a0, b0) from hst)
  clear hP hpp hst
  by_cases hk : k = 1
  · have hT : (k == 1) = true := by rw [hk]; rfl
    cases pp
    · rw [if_pos ⟨hk, rfl⟩] at hq
      injection hq with e1 e2
      subst e1 e2
      clear hk
      go_enter Try.func51, Try.ntmps51
      go_wp2_with (first | (go_at_call 39; refine (HP.out _).mono ?_; rintro e w2 ⟨rfl, hb⟩; have HB2 := Aside0.mk (below_then HB0.out HB0.out.size hb); clear hb))
      all_goals go_ret2
      all_goals exact ⟨rfl, HB2.out⟩
    · rw [if_neg (by rintro ⟨_, h⟩; cases h)] at hq
      injection hq with e1 e2
      subst e1 e2
      clear hk
      go_enter Try.func51, Try.ntmps51
      go_wp2_with (first | (go_at_call 39; refine (HP.out _).mono ?_; rintro e w2 ⟨rfl, hb⟩; have HB2 := Aside0.mk (below_then HB0.out HB0.out.size hb); have HX2 := Aside0.mk (blk_below HX.out hb); clear hb; obtain ⟨m1, m2, m3, m4, m5, m6, q1, q2, q3, q4, q5, q6, hm6, hb6⟩ := moves_map w2; have hlk := moves_look m6 _ hm6 k; rw [HST.out] at hlk; have HB6 := Aside0.mk (below_then HB2.out HB2.out.size hb6); have hx6 := blk_below HX2.out hb6; have hk6 : m6.cell? ⟨w.heap.size, 0, none⟩ = some (.int .i64 k) := (blk_cell hx6 0).trans rfl; clear hm6 hb6 hx6))
      refine start_ (n := 6) (S := fun w' => w'.cell? ⟨m6.heap.size, 0, none⟩ = some (.int .i64 a0) ∧ w'.cell? ⟨m6.heap.size, 1, none⟩ = some (.int .i64 b0)) (ds := []) #[false, false, false, false, false, false] (by kernel_rfl) rfl rfl ⟨((blk_cell (blk_new m6 (.cells #[.int .i64 a0, .int .i64 b0] 100)) 0).trans rfl), ((blk_cell (blk_new m6 (.cells #[.int .i64 a0, .int .i64 b0] 100)) 1).trans rfl)⟩ (fun hHeld => ?_)
      refine pure_ (i := 0) (N := some 27) (v := ?_) (a' := ?_) #[true, false, false, false, false, false] rfl rfl (by kernel_rfl) (fun _ _ _ h => h) (Or.inl ⟨by rfl, ?_⟩) ?_ ?_
      rotate_left
      · intro w'
        go_simp
        with_reducible rfl
      rotate_left
      · simp only [Act.put, List.setIfInBounds_toArray, List.set_cons_zero, List.set_cons_succ, i64_w, i32_w]
        rfl
      refine pure_ (i := 2) (N := some 29) (v := ?_) (a' := ?_) #[true, false, true, false, false, false] rfl rfl (by kernel_rfl) (fun _ _ _ h => h) (Or.inl ⟨by rfl, ?_⟩) ?_ ?_
      rotate_left
      · intro w'
        go_simp
        with_reducible rfl
      rotate_left
      · simp only [Act.put, List.setIfInBounds_toArray, List.set_cons_zero, List.set_cons_succ, i64_w, i32_w]
        rfl
      refine take_ (i := 1) (N := some 28) (v := ?_) (a' := ?_) #[true, true, true, false, false, false] rfl rfl (by kernel_rfl) (fun _ _ _ h => h) (Or.inl ⟨by rfl, ?_⟩) hHeld ?_ ?_
      rotate_left
      · rintro w' ⟨s0, s1⟩
        go_simp
        with_reducible rfl
      rotate_left
      · simp only [Act.put, List.setIfInBounds_toArray, List.set_cons_zero, List.set_cons_succ, i64_w, i32_w]
        rfl
      refine pure_ (i := 4) (N := some 2) (v := ?_) (a' := ?_) #[true, true, true, false, true, false] rfl rfl (by kernel_rfl) (fun _ _ _ h => h) (Or.inl ⟨by rfl, ?_⟩) ?_ ?_
      rotate_left
      · intro w'
        go_simp
        with_reducible rfl
      rotate_left
      · simp only [Act.put, List.setIfInBounds_toArray, List.set_cons_zero, List.set_cons_succ, i64_w, i32_w]
        rfl
      refine take_ (i := 3) (N := some 30) (v := ?_) (a' := ?_) #[true, true, true, true, true, false] rfl rfl (by kernel_rfl) (fun _ _ _ h => h) (Or.inl ⟨by rfl, ?_⟩) hHeld ?_ ?_
      rotate_left
      · rintro w' ⟨s0, s1⟩
        go_simp
        with_reducible rfl
      rotate_left
      · simp only [Act.put, List.setIfInBounds_toArray, List.set_cons_zero, List.set_cons_succ, i64_w, i32_w]
        rfl
      refine pure_ (i := 5) (N := some 3) (v := ?_) (a' := ?_) #[true, true, true, true, true, true] rfl rfl (by kernel_rfl) (fun _ _ _ h => h) (Or.inl ⟨by rfl, ?_⟩) ?_ ?_
      rotate_left
      · intro w'
        go_simp
        with_reducible rfl
      rotate_left
      · simp only [Act.put, List.setIfInBounds_toArray, List.set_cons_zero, List.set_cons_succ, i64_w, i32_w]
        rfl
      refine done_ (by kernel_rfl) ?_
      all_goals go_wp2
      all_goals go_ret2
      all_goals exact ⟨rfl, below_drew (below_alloc HB6.out _)⟩
  · rw [if_neg (fun h => hk h.1)] at hq
    injection hq with e1 e2
    subst e1 e2
    have hT : (k == 1) = false := beq_eq_false_iff_ne.2 hk
    clear hk
    obtain ⟨m1, m2, m3, m4, m5, m6, q1, q2, q3, q4, q5, q6, hm6, hb6⟩ := moves_map (w.alloc (.cells #[.int .i64 k, .int .i32 r] 70))
    have hlk := moves_look m6 _ hm6 k
    rw [HST.out] at hlk
    have HB6 := Aside0.mk (below_then HB0.out HB0.out.size hb6)
    have hx6 := blk_below HX.out hb6
    have hk6 : m6.cell? ⟨w.heap.size, 0, none⟩ = some (.int .i64 k) := (blk_cell hx6 0).trans rfl
    clear hm6 hb6 hx6
    have hsz : (w.alloc (.cells #[.int .i64 k, .int .i32 r] 70)).heap.size = w.heap.size + 1 := by simp
    rw [hsz] at q1 q2 q3 q4 q5 q6 hlk
    go_enter Try.func51, Try.ntmps51
    go_wp2
    refine start_ (n := 6) (S := fun w' => w'.cell? ⟨m6.heap.size, 0, none⟩ = some (.int .i64 a0) ∧ w'.cell? ⟨m6.heap.size, 1, none⟩ = some (.int .i64 b0)) (ds := []) #[false, false, false, false, false, false] (by kernel_rfl) rfl rfl ⟨((blk_cell (blk_new m6 (.cells #[.int .i64 a0, .int .i64 b0] 100)) 0).trans rfl), ((blk_cell (blk_new m6 (.cells #[.int .i64 a0, .int .i64 b0] 100)) 1).trans rfl)⟩ (fun hHeld => ?_)
    refine pure_ (i := 0) (N := some 27) (v := ?_) (a' := ?_) #[true, false, false, false, false, false] rfl rfl (by kernel_rfl) (fun _ _ _ h => h) (Or.inl ⟨by rfl, ?_⟩) ?_ ?_
    rotate_left
    · intro w'
      go_simp
      with_reducible rfl
    rotate_left
    · simp only [Act.put, List.setIfInBounds_toArray, List.set_cons_zero, List.set_cons_succ, i64_w, i32_w]
      rfl
    refine pure_ (i := 2) (N := some 29) (v := ?_) (a' := ?_) #[true, false, true, false, false, false] rfl rfl (by kernel_rfl) (fun _ _ _ h => h) (Or.inl ⟨by rfl, ?_⟩) ?_ ?_
    rotate_left
    · intro w'
      go_simp
      with_reducible rfl
    rotate_left
    · simp only [Act.put, List.setIfInBounds_toArray, List.set_cons_zero, List.set_cons_succ, i64_w, i32_w]
      rfl
    refine take_ (i := 1) (N := some 28) (v := ?_) (a' := ?_) #[true, true, true, false, false, false] rfl rfl (by kernel_rfl) (fun _ _ _ h => h) (Or.inl ⟨by rfl, ?_⟩) hHeld ?_ ?_
    rotate_left
    · rintro w' ⟨s0, s1⟩
      go_simp
      with_reducible rfl
    rotate_left
    · simp only [Act.put, List.setIfInBounds_toArray, List.set_cons_zero, List.set_cons_succ, i64_w, i32_w]
      rfl
    refine pure_ (i := 4) (N := some 2) (v := ?_) (a' := ?_) #[true, true, true, false, true, false] rfl rfl (by kernel_rfl) (fun _ _ _ h => h) (Or.inl ⟨by rfl, ?_⟩) ?_ ?_
    rotate_left
    · intro w'
      go_simp
      with_reducible rfl
    rotate_left
    · simp only [Act.put, List.setIfInBounds_toArray, List.set_cons_zero, List.set_cons_succ, i64_w, i32_w]
      rfl
    refine take_ (i := 3) (N := some 30) (v := ?_) (a' := ?_) #[true, true, true, true, true, false] rfl rfl (by kernel_rfl) (fun _ _ _ h => h) (Or.inl ⟨by rfl, ?_⟩) hHeld ?_ ?_
    rotate_left
    · rintro w' ⟨s0, s1⟩
      go_simp
      with_reducible rfl
    rotate_left
    · simp only [Act.put, List.setIfInBounds_toArray, List.set_cons_zero, List.set_cons_succ, i64_w, i32_w]
      rfl
    refine pure_ (i := 5) (N := some 3) (v := ?_) (a' := ?_) #[true, true, true, true, true, true] rfl rfl (by kernel_rfl) (fun _ _ _ h => h) (Or.inl ⟨by rfl, ?_⟩) ?_ ?_
    rotate_left
    · intro w'
      go_simp
      with_reducible rfl
    rotate_left
    · simp only [Act.put, List.setIfInBounds_toArray, List.set_cons_zero, List.set_cons_succ, i64_w, i32_w]
      rfl
    refine done_ (by kernel_rfl) ?_
    all_goals go_wp2
    all_goals go_ret2
    all_goals exact ⟨rfl, below_drew (below_alloc HB6.out _)⟩
end Go.Proofs.Ytglcopljhanhmaa
