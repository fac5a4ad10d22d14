/- utf.Stream: what its methods do. -/
import Derived.Test.YtlllbaieidbcdaaStP
import Derived.Test.YtlllbaieidbcdaaRows
import Derived.Test.YtlllbaieidbcdaaLit
import Derived.Test.YtlllbaieidbcdaaCuts
import Derived.Test.YtlllbaieidbcdaaSetSome
import Derived.Laws.IdiomCopy
import Derived.WalkKit
import Derived.WalkSpells
import Derived.WalkLawsBesides
import Derived.WalkSmall
import Derived.Deep.RegionHeld3
import Derived.Deep.RegionLaw
import Derived.BigQuiet
import Derived.Deep.QuietTactic
namespace Go.Proofs.Ytlllbaieidbcdaa.Str
open Go.RowKit Go.Proofs.Ytlllbaieidbcdaa Go.Proofs.Ytlllbaieidbcdaa.PParseEvents Go.Proofs.YtlllbaieidbcdaaW.PrintWords Go.Proofs.YtlllbaieidbcdaaW.PrintLast Go.Proofs.YtlllbaieidbcdaaW.PrintMore
set_option linter.unusedVariables false
set_option linter.unusedSimpArgs false
variable {st : Int} {nv : Value}
/-- A stream stands at g and holds h; no older block is changed. -/
structure StS (st : Int) (nv : Value) (w W : World) (g : Nat) (h : List Int) : Prop where
  hb : Below w.heap.size w W
  ge : w.heap.size ≤ g
  l3 : h.length ≤ 3
  hx : ∃ x0 x1 x2 : Int, W.heap[g]? = some (.cells #[.int .u8 x0, .int .u8 x1, .int .u8 x2, .int .i64 h.length, .int .i64 st, nv] 28 (0, 0)) ∧ h = [x0, x1, x2].take h.length
theorem info5s : (Try.prog.info? 5).map (fun i => (i.zero, i.size, i.bytes)) = some (some (.int .u8 0), 1, 1) := by kernel_rfl
theorem info21s : (Try.prog.info? 21).map (fun i => (i.zero, i.size, i.bytes)) = some (some (.int .i32 0), 1, 4) := by kernel_rfl
theorem st_reads {W : World} {g : Nat} {x0 x1 x2 n : Int} (hx : W.heap[g]? = some (.cells #[.int .u8 x0, .int .u8 x1, .int .u8 x2, .int .i64 n, .int .i64 st, nv] 28 (0, 0))) : Kd.C (Kd.int .u8) W (some ⟨g, 0, none⟩) 3 [x0, x1, x2] := by
  refine ⟨rfl, by omega, fun _ => ⟨_, rfl, fun j p hp => ?_⟩⟩
  have hj : j < 3 := (List.getElem?_eq_some_iff.1 hp).1
  refine ⟨[.int .u8 p], rfl, rfl, fun i u hi => ?_⟩
  have hi0 : i = 0 := by have := (List.getElem?_eq_some_iff.1 hi).1; simp at this; omega
  subst hi0
  have hu : Value.int .u8 p = u := by simpa using hi
  subst hu
  have : W.cell? ⟨g, j, none⟩ = some (.int .u8 p) := by
    rw [blk_cell hx j]
    match j, hj with
    | 0, _ => simp at hp; subst hp; rfl
    | 1, _ => simp at hp; subst hp; rfl
    | 2, _ => simp at hp; subst hp; rfl
  have e : (⟨g, 0, none⟩ : Addr).add (j * (Kd.int .u8).sz + 0) = ⟨g, j, none⟩ := by
    show (⟨g, 0, none⟩ : Addr).add (j * 1 + 0) = _
    rw [Nat.mul_one, Nat.add_zero]
    cases j with
    | zero => rfl
    | succ n => simp [Addr.add]
  rw [e]
  exact this
set_option maxRecDepth 100000 in
theorem slice_arr (W : World) (g n : Nat) (h : n ≤ 3) : (Instr.sliceAt 23 (.pointer (some ⟨g, 0, none⟩)) none (some (.int .i64 n)) none).run Try.prog W = .ok (.slice (some ⟨g, 0, none⟩) n 3) W := by
  rw [run_sliceAt_array_h W 23 ⟨g, 0, none⟩ (by kernel_rfl) .i64 n (by omega) (by rw [show Try.prog.arrayLen 23 = 3 by kernel_rfl]; omega)]
  rw [show Try.prog.arrayLen 23 = 3 by kernel_rfl, show Try.prog.elem 23 = 5 by kernel_rfl]
  rfl
set_option maxHeartbeats 4000000 in
set_option maxRecDepth 100000 in
theorem Held_any (w W : World) (g : Nat) (h : List Int) (hs : StS st nv w W g h) :
    Calls Try.prog 27 #[.pointer (some ⟨g, 0, none⟩)] W fun e w' => ∃ v, e = .returned v ∧ Kd.R (Kd.int .u8) 5 w' W.heap.size (fun _ => True) v h ∧ Below W.heap.size W w' := by
  obtain ⟨hb, ge, l3, x0, x1, x2, hx, hh⟩ := hs
  have hC := Kd.C_take (st_reads hx) l3
  rw [← hh] at hC
  have h3 : W.cell? ⟨g, 3, none⟩ = some (.int .i64 h.length) := (blk_cell hx 3).trans rfl
  have hsl := fun W' => slice_arr W' g h.length l3
  have HC := Aside0.mk hC
  have HL := Aside0.mk l3
  clear hb ge hx hh hC l3
  go_enter Try.func27, Try.ntmps27
  go_wp2
  refine start_ (n := 10) (S := fun w' => w'.cell? ⟨g, 3, none⟩ = some (.int .i64 h.length)) (ds := [7, 8]) #[false, false, false, false, false, false, false, false, false, false] (by kernel_rfl) rfl rfl (h3) (fun hHeld => ?_)
  refine pure_ (i := 0) (N := some 5) (v := ?_) (a' := ?_) #[true, false, false, false, false, false, false, false, false, false] rfl rfl (by kernel_rfl) (fun _ _ _ h => h) (Or.inl ⟨by rfl, ?_⟩) ?_ ?_
  rotate_left
  · intro w'
    go_simp
    with_reducible rfl
  rotate_left
  · simp only [Act.put, List.setIfInBounds_toArray, List.set_cons_zero, List.set_cons_succ, i64_w, i32_w]
    rfl
  refine pure_ (i := 1) (N := some 6) (v := ?_) (a' := ?_) #[true, true, false, false, false, false, false, false, false, false] rfl rfl (by kernel_rfl) (fun _ _ _ h => h) (Or.inl ⟨by rfl, ?_⟩) ?_ ?_
  rotate_left
  · intro w'
    go_simp
    with_reducible rfl
  rotate_left
  · simp only [Act.put, List.setIfInBounds_toArray, List.set_cons_zero, List.set_cons_succ, i64_w, i32_w]
    rfl
  refine pure_ (i := 2) (N := some 7) (v := ?_) (a' := ?_) #[true, true, true, false, false, false, false, false, false, false] rfl rfl (by kernel_rfl) (fun _ _ _ h => h) (Or.inl ⟨by rfl, ?_⟩) ?_ ?_
  rotate_left
  · intro w'
    go_simp
    with_reducible rfl
  rotate_left
  · simp only [Act.put, List.setIfInBounds_toArray, List.set_cons_zero, List.set_cons_succ, i64_w, i32_w]
    rfl
  refine pure_ (i := 3) (N := some 8) (v := ?_) (a' := ?_) #[true, true, true, true, false, false, false, false, false, false] rfl rfl (by kernel_rfl) (fun _ _ _ h => h) (Or.inl ⟨by rfl, ?_⟩) ?_ ?_
  rotate_left
  · intro w'
    go_simp
    with_reducible rfl
  rotate_left
  · simp only [Act.put, List.setIfInBounds_toArray, List.set_cons_zero, List.set_cons_succ, i64_w, i32_w]
    rfl
  refine pure_ (i := 4) (N := some 9) (v := ?_) (a' := ?_) #[true, true, true, true, true, false, false, false, false, false] rfl rfl (by kernel_rfl) (fun _ _ _ h => h) (Or.inl ⟨by rfl, ?_⟩) ?_ ?_
  rotate_left
  · intro w'
    go_simp
    with_reducible rfl
  rotate_left
  · simp only [Act.put, List.setIfInBounds_toArray, List.set_cons_zero, List.set_cons_succ, i64_w, i32_w]
    rfl
  refine pure_ (i := 5) (N := some 10) (v := ?_) (a' := ?_) #[true, true, true, true, true, true, false, false, false, false] rfl rfl (by kernel_rfl) (fun _ _ _ h => h) (Or.inl ⟨by rfl, ?_⟩) ?_ ?_
  rotate_left
  · intro w'
    go_simp
    with_reducible rfl
  rotate_left
  · simp only [Act.put, List.setIfInBounds_toArray, List.set_cons_zero, List.set_cons_succ, i64_w, i32_w]
    rfl
  refine take_ (i := 6) (N := some 11) (v := ?_) (a' := ?_) #[true, true, true, true, true, true, true, false, false, false] rfl rfl (by kernel_rfl) (fun _ _ _ h => h) (Or.inl ⟨by rfl, ?_⟩) hHeld ?_ ?_
  rotate_left
  · intro w' s0
    go_simp
    with_reducible rfl
  rotate_left
  · simp only [Act.put, List.setIfInBounds_toArray, List.set_cons_zero, List.set_cons_succ, i64_w, i32_w]
    rfl
  refine last_ (i := 7) (N := some 12) #[true, true, true, true, true, true, true, true, false, false] rfl rfl (by kernel_rfl) (by decide) (fun K hK => ?_)
  refine value_ (w1 := ?_) (v := ?_) (by rfl) rfl ?_ ?_
  rotate_left 2
  · go_simp
    constructor
    · rfl
    · rfl
  refine hK.out _ _ ?_
  clear hK K
  refine norm_ (a' := ?_) ?_ ?_
  rotate_left
  · show Act.put _ (some 12) _ = _
    simp only [Act.put, List.setIfInBounds_toArray, List.set_cons_zero, List.set_cons_succ, i64_w, i32_w]
    rfl
  refine last_ (i := 8) (N := some 13) #[true, true, true, true, true, true, true, true, true, false] rfl rfl (by kernel_rfl) (by decide) (fun K hK => ?_)
  refine Kd.R_append_rows_step (Kd.int .u8) (w0 := W) W.heap.size (by rfl) (.const (.slice none 0 0)) (.tmp 12) 29 5 (.int .u8 0) 1 (by rfl) Try.underlying29 info5s rfl (by decide) (by omega) _ [] h _ _ _ (fun _ => True) (fun _ => False) (by rfl) (by rfl) (Kd.R_nil _ _ _ _ _) (Kd.C_below HC.out (by repeat (first | exact Below.refl _ _ | apply below_alloc | apply pw_below_drewN | apply below_drew1 | (refine Below.setCell ?_ (by simp) _)))) (fun _ _ h => h) (fun _ h => h.elim) (fun _ _ => trivial) (by repeat (first | exact Below.refl _ _ | apply below_alloc | apply pw_below_drewN | apply below_drew1 | (refine Below.setCell ?_ (by simp) _))) (show W.heap.size ≤ _ from Nat.le_refl _) (by have := HL.out; simp; omega) ?_
  intro v4 w4 ho hb hg4 hat
  have HO4 := Aside0.mk ho
  have HB4 := Aside0.mk hb
  clear ho hb hg4 hat
  refine hK.out _ _ ?_
  clear hK K
  refine norm_ (a' := ?_) ?_ ?_
  rotate_left
  · show Act.put _ (some 13) _ = _
    simp only [Act.put, List.setIfInBounds_toArray, List.set_cons_zero, List.set_cons_succ, i64_w, i32_w]
    rfl
  refine pure_ (i := 9) (N := some 2) (v := ?_) (a' := ?_) #[true, true, true, true, true, true, true, true, true, true] rfl rfl (by kernel_rfl) (fun _ _ _ h => h) (Or.inl ⟨by rfl, ?_⟩) ?_ ?_
  rotate_left
  · intro w'
    go_simp
    with_reducible rfl
  rotate_left
  · simp only [Act.put, List.setIfInBounds_toArray, List.set_cons_zero, List.set_cons_succ, i64_w, i32_w]
    rfl
  refine done_ (by kernel_rfl) ?_
  all_goals go_wp2
  all_goals go_ret
  all_goals exact ⟨_, rfl, HO4.out, HB4.out⟩
theorem Flush_any (w W : World) (g : Nat) (h r : List Int) (hs : StS st nv w W g h) (hr : (if h = [] then [] else [65533]) = r) :
    Calls Try.prog 24 #[.pointer (some ⟨g, 0, none⟩)] W fun e w' => ∃ v, e = .returned v ∧ Kd.R (Kd.int .i32) 21 w' W.heap.size (fun _ => True) v r ∧ StS st nv w w' g [] ∧ W.grownBy w' (some g) := by
  obtain ⟨hb, ge, l3, x0, x1, x2, hx, hh⟩ := hs
  have h3 : W.cell? ⟨g, 3, none⟩ = some (.int .i64 h.length) := (blk_cell hx 3).trans rfl
  have hf3 := blk_frozen hx 3
  have HX := Aside0.mk hx
  have HB := Aside0.mk hb
  have HG := Aside0.mk ge
  by_cases he : h = []
  · subst he
    obtain rfl : [] = r := by rw [← hr, if_pos rfl]
    clear hr
    have hT : (((([] : List Int).length : Nat) : Int) == 0) = true := rfl
    clear hb ge hx hh l3
    go_enter Try.func24, Try.ntmps24
    go_wp2
    all_goals go_ret
    all_goals exact ⟨_, rfl, Kd.R_nil _ _ _ _ _, ⟨HB.out, HG.out, by simp, x0, x1, x2, HX.out, rfl⟩, grown_refl _ _⟩
  · have hT : (((h.length : Nat) : Int) == 0) = false := by rw [beq_eq_false_iff_ne]; have := List.length_pos_iff.2 he; omega
    have HE := Aside0.mk he
    obtain rfl : [65533] = r := by rw [← hr, if_neg he]
    clear hb ge hx hh l3 he hr
    go_enter Try.func24, Try.ntmps24
    go_wp2
    all_goals go_ret
    all_goals refine ⟨_, rfl, ?_, ⟨below_alloc (HB.out.setCell HG.out _) _, HG.out, by simp, x0, x1, x2, blk_alloc (by simpa using blk_set HX.out 3 (.int .i64 0)) _, rfl⟩, grown_trans (grown_set (grown_refl _ _) 3 _) (below_grown0 (below_alloc (Below.refl _ _) _) (some g)) (fun b e => .inl e)⟩
    all_goals exact R_lit_at .i32 (W := W.setCell ⟨g, 3, none⟩ (.int .i64 0)) W.heap.size 21 _ [65533] (by simp) (by simp) (by simp)
section
variable {P : Program}
theorem run_copy_cellsN (w : World) (dT sT ty elem : TypeId) (sz b o dLen dCap : Nat) (a : Addr) (sLen sCap : Nat) (cs : List Value)
    (hu : P.underlying dT = some (.slice elem)) (hs : (P.info? elem).map (·.size) = some sz) (hn : cs.length = Nat.min sLen dLen * sz)
    (hsrc : ∀ j v, cs[j]? = some v → w.cell? (a.add j) = some v) (hc : ∀ j, j < cs.length → (w.cell? ⟨b, o + j, none⟩).isSome = true) (hf : ∀ j, j < cs.length → w.frozen? ⟨b, o + j, none⟩ = false) (h1 : ∀ v ∈ cs, v.oneCell' = true) :
    (Builtin.copy_ #[dT, sT] ty #[.slice (some ⟨b, o, none⟩) dLen dCap, .slice (some a) sLen sCap]).run P w = .ok (goInt ((Nat.min sLen dLen : Nat) : Int)) (w.setCells b o cs) := by
  have hl := run_loadCells_list (P := P) w a cs hsrc
  have hst := run_storeCells_cells (P := P) b o cs 0 w (by simpa using hc) (by simpa using hf) h1
  cases hq : P.info? elem with
  | none => simp [hq] at hs
  | some i =>
    have hi : i.size = sz := by simpa [hq] using hs
    simp [Builtin.copy_, run_underlying hu, Builtin.lenOf, Builtin.firstCells, sizeOf, typeInfo, hq, hi, ← hn, hl, hst]
theorem run_copy_noneN (w : World) (dT sT ty elem : TypeId) (sz : Nat) (d a : Option Addr) (dLen dCap sLen sCap : Nat) (hu : P.underlying dT = some (.slice elem)) (hs : (P.info? elem).map (·.size) = some sz) (hn : Nat.min sLen dLen = 0) :
    (Builtin.copy_ #[dT, sT] ty #[.slice d dLen dCap, .slice a sLen sCap]).run P w = .ok (goInt 0) w := by
  cases hq : P.info? elem with
  | none => simp [hq] at hs
  | some i =>
    have hl : ∀ (x : Addr), (loadCells x 0).run P w = .ok #[] w := fun x => by simpa using run_loadCells_list (P := P) w x [] (by simp)
    cases d <;> cases a <;> simp [Builtin.copy_, run_underlying hu, Builtin.lenOf, Builtin.firstCells, sizeOf, typeInfo, hq, hn, storeCells, hl]
end
section
variable {P : Program} {ops : Array Oper} {rest : List Oper} {o : Oper} {a : Act} {Q : Exit → Act → World → Prop}
theorem step_copy {W w1 : World} (hgd : o.guard = none) (s x : Operand) (t t' : TypeId) (v u : Value) (m : Int)
    (ho : o.op = .call { callee := .builtin .copy, args := #[s, x], argTypes := #[t, t'] }) (hs : a.eval s = v) (hx : a.eval x = u)
    (hr : ∀ ty, (Builtin.copy_ #[t, t'] ty #[v, u]).run P W = .ok (goInt m) w1)
    (h : wpList P ops Q rest (a.put o.dst (.int .i64 m)) w1) : wpList P ops Q (o :: rest) a W := by
  refine wpList_plain hgd fun K hK => ?_
  unfold Oper.wp execOp
  simp only [ho, resolve, invoke, builtin, Sem.run_bind, Sem.run_pure, Result.andThen_ok, List.map_toArray, List.map_cons, List.map_nil, hs, hx, hr]
  exact hK _ _ h
end
theorem held_copy (W : World) (g : Nat) (x0 x1 x2 : Int) (n : Value) (A : Option Addr) (c : Nat) (L : List Int) (hx : W.heap[g]? = some (.cells #[.int .u8 x0, .int .u8 x1, .int .u8 x2, n, .int .i64 st, nv] 28 (0, 0))) (hC : Kd.C (Kd.int .u8) W A L.length L) (hl : L.length ≤ 3) :
    ∃ w1, (∀ ty, (Builtin.copy_ #[29, 29] ty #[.slice (some ⟨g, 0, none⟩) 3 3, .slice A L.length c]).run Try.prog W = .ok (goInt L.length) w1) ∧
      (∃ y0 y1 y2 : Int, w1.heap[g]? = some (.cells #[.int .u8 y0, .int .u8 y1, .int .u8 y2, n, .int .i64 st, nv] 28 (0, 0)) ∧ L = [y0, y1, y2].take L.length) ∧ W.grownBy w1 (some g) := by
  have hcell : ∀ ad, A = some ad → ∀ j v, (L.map (Value.int .u8))[j]? = some v → W.cell? (ad.add j) = some v := by
    intro ad ha j v hj
    have hlt : j < L.length := by have := (List.getElem?_eq_some_iff.1 hj).1; simpa using this
    obtain ⟨ad', ha', hc⟩ := Kd.at_int hC (j : Int) (by omega) (by omega)
    rw [ha] at ha'
    obtain rfl := Option.some.inj ha'
    rw [Int.toNat_natCast] at hc
    rw [hc]
    rw [List.getElem?_map, List.getElem?_eq_getElem hlt] at hj
    simp only [Option.map_some, Option.some.injEq] at hj
    rw [← hj]
    simp [rd, List.getD_eq_getElem?_getD, hlt]
  have key : ∀ (cs : List Value), cs = L.map (Value.int .u8) → 0 < L.length → ∀ ty, (Builtin.copy_ #[29, 29] ty #[.slice (some ⟨g, 0, none⟩) 3 3, .slice A L.length c]).run Try.prog W = .ok (goInt L.length) (W.setCells g 0 cs) := by
    intro cs hcs hp ty
    obtain ⟨ad, ha, -⟩ := Kd.at_int hC 0 (by omega) (by omega)
    subst ha
    have hm : Nat.min L.length 3 = L.length := Nat.min_eq_left hl
    have := run_copy_cellsN (P := Try.prog) W 29 29 ty 5 1 g 0 3 3 ad L.length c cs Try.underlying29 (by kernel_rfl) (by rw [hm, hcs]; simp) (by rw [hcs]; exact hcell ad rfl)
      (fun j hj => by
        have : j < 3 := by rw [hcs] at hj; simp at hj; omega
        rw [blk_cell hx]
        match j, this with
        | 0, _ => rfl
        | 1, _ => rfl
        | 2, _ => rfl)
      (fun j _ => blk_frozen hx _) (by rw [hcs]; intro v hv; obtain ⟨z, _, rfl⟩ := List.mem_map.1 hv; rfl)
    rw [hm] at this
    exact this
  match L, hl with
  | [], _ => exact ⟨W, fun ty => run_copy_noneN (P := Try.prog) W 29 29 ty 5 1 _ A 3 3 0 c Try.underlying29 (by kernel_rfl) rfl, ⟨x0, x1, x2, hx, rfl⟩, grown_refl _ _⟩
  | [a], _ => exact ⟨_, key _ rfl (by simp), ⟨a, x1, x2, by simpa [World.setCells] using blk_set hx 0 (.int .u8 a), rfl⟩, grown_set (grown_refl _ _) 0 _⟩
  | [a, b], _ => exact ⟨_, key _ rfl (by simp), ⟨a, b, x2, by simpa [World.setCells] using blk_set (blk_set hx 0 (.int .u8 a)) 1 (.int .u8 b), rfl⟩, grown_set (grown_set (grown_refl _ _) 0 _) 1 _⟩
  | [a, b, d], _ => exact ⟨_, key _ rfl (by simp), ⟨a, b, d, by simpa [World.setCells] using blk_set (blk_set (blk_set hx 0 (.int .u8 a)) 1 (.int .u8 b)) 2 (.int .u8 d), rfl⟩, grown_set (grown_set (grown_set (grown_refl _ _) 0 _) 1 _) 2 _⟩
end Go.Proofs.Ytlllbaieidbcdaa.Str
