/- GridPlays: what its proof leads to. No condition. -/
import Derived.Test.YtblcmcdifgclcaaGreatG4qGridPlays
import Derived.WalkKit
import Derived.Laws.IdiomCopy
import Derived.ArgAppend
import Derived.Deep.Upon
import Derived.Lib.SlBytesConst
import Derived.BigFrame
import Derived.Test.YtblcmcdifgclcaaGreatG6qGridPlays
namespace Go.Proofs.YtblcmcdifgclcaaGreat
open Go.RowKit Go.Proofs.YtblcmcdifgclcaaGreatW.PrintWords Go.Proofs.YtblcmcdifgclcaaGreatW.PrintLast Go.Proofs.YtblcmcdifgclcaaGreatW.PrintMore
set_option linter.unusedVariables false
set_option linter.unusedSimpArgs false
theorem R_lit0 {α : Type} (d : Kd α) {W : World} (base e : Nat) {xs : List α} {inner : List Value} {ok okp : Nat → Prop} (hrep : Reps (d.M W base okp) d.sz xs inner) (hok : ∀ k, okp k → ok k) (hfresh : ok W.heap.size) (hbase : base ≤ W.heap.size) (hm : xs.length ≤ 9223372036854775807) (hlt : ∀ k, okp k → k < W.heap.size) :
 d.R e (W.alloc (.cells inner.toArray e)) base ok (.slice (some ⟨W.heap.size, 0, none⟩) xs.length xs.length) xs := by
 refine ⟨fun k hk => ?_, inner, ?_, ?_⟩
 ·have : W.heap.size = k := by simpa [Value.ownBlock] using hk
  subst this
  exact hfresh
 ·have h := World.ownsRow_lit (base := base) (e := e) (size := d.sz) W inner.toArray xs.length hbase (by simpa [maxLen] using hm) (by simpa using hrep.1)
  simpa using h
 ·refine hrep.imp_ fun p c hp => ?_
  refine d.M_mono (fun k hk => ⟨hok k hk, ?_⟩) (Kd.M_alloc hp _)
  have := hlt k hk
  simp [Value.ownBlock]
  omega
end Go.Proofs.YtblcmcdifgclcaaGreat
namespace Go.Proofs.YtblcmcdifgclcaaGreat
open Go.RowKit Go.Proofs.YtblcmcdifgclcaaGreatW.PrintWords Go.Proofs.YtblcmcdifgclcaaGreatW.PrintLast Go.Proofs.YtblcmcdifgclcaaGreatW.PrintMore
set_option linter.unusedVariables false
set_option linter.unusedSimpArgs false
section
variable {P : Program}
theorem run_copy_cellsN (w : World) (dT sT ty elem : TypeId) (sz b o dLen dCap : Nat) (a : Addr) (sLen sCap : Nat) (cs : List Value)
 (hu : P.underlying dT = some (.slice elem)) (hs : (P.info? elem).map (·.size) = some sz) (hn : cs.length = Nat.min sLen dLen * sz)
 (hsrc : ∀ j v, cs[j]? = some v → w.cell? (a.add j) = some v) (hc : ∀ j, j < cs.length → (w.cell? ⟨b, o + j, none⟩).isSome = true) (hf : ∀ j, j < cs.length → w.frozen? ⟨b, o + j, none⟩ = false) (h1 : ∀ v ∈ cs, v.oneCell' = true) :
 (Builtin.copy_ #[dT, sT] ty #[.slice (some ⟨b, o, none⟩) dLen dCap, .slice (some a) sLen sCap]).run P w = .ok (goInt ((Nat.min sLen dLen : Nat) : Int)) (w.setCells b o cs) := by
 have hl := run_loadCells_list (P := P) w a cs hsrc
 have hst := run_storeCells_cells (P := P) b o cs 0 w (by simpa using hc) (by simpa using hf) h1
 cases hq : P.info? elem with
 | none => simp [hq] at hs
 | some i =>
  have hi : i.size = sz := by simpa [hq] using hs
  simp [Builtin.copy_, run_underlying hu, Builtin.lenOf, Builtin.firstCells, sizeOf, typeInfo, hq, hi, ← hn, hl, hst]
theorem run_copy_noneN (w : World) (dT sT ty elem : TypeId) (sz : Nat) (d a : Option Addr) (dLen dCap sLen sCap : Nat) (hu : P.underlying dT = some (.slice elem)) (hs : (P.info? elem).map (·.size) = some sz) (hn : Nat.min sLen dLen = 0) :
 (Builtin.copy_ #[dT, sT] ty #[.slice d dLen dCap, .slice a sLen sCap]).run P w = .ok (goInt 0) w := by
 cases hq : P.info? elem with
 | none => simp [hq] at hs
 | some i =>
  have hl : ∀ (x : Addr), (loadCells x 0).run P w = .ok #[] w := fun x => by simpa using run_loadCells_list (P := P) w x [] (by simp)
  cases d <;> cases a <;> simp [Builtin.copy_, run_underlying hu, Builtin.lenOf, Builtin.firstCells, sizeOf, typeInfo, hq, hn, storeCells, hl]
theorem run_append_zero (w : World) (t ty e : TypeId) (i : TypeInfo) (ht : P.underlying t = some (.slice e)) (hi : P.info? e = some i) (base A : Option Addr) (n c : Nat) :
 (Builtin.append_ #[t, t] ty #[.slice base n n, .slice A 0 c]).run P w = .ok (.slice base n n) w := by
 have hl : ∀ (x : Addr), (loadCells x 0).run P w = .ok #[] w := fun x => by simpa using run_loadCells_list (P := P) w x [] (by simp)
 cases base <;> cases A <;> simp [Builtin.append_, run_underlying ht, sizeOf, typeInfo, hi, Builtin.lenOf, Builtin.firstCells, storeCells, hl]
end
theorem cut_cap {P : Program} {α : Type} (d : Kd α) (t e : TypeId) {z : Value} {bytes : Nat} (ht : P.underlying t = some (.slice e)) (hinfo : (P.info? e).map (fun i => (i.zero, i.size, i.bytes)) = some (some z, d.sz, bytes)) (A : Option Addr) (c : Nat) (xs : List α) (j : Int) (h0 : 0 ≤ j) (hm : j ≤ xs.length) (hc : xs.length ≤ c) :
 (∀ W : World, (Instr.slice t (.slice A xs.length c) none (some (.int .i64 j)) (some (.int .i64 j))).run P W = .ok (.slice A (xs.take j.toNat).length (xs.take j.toNat).length) W) ∧ (∀ w : World, d.C w A xs.length xs → d.C w A (xs.take j.toNat).length (xs.take j.toNat)) := by
 have hl : (xs.take j.toNat).length = j.toNat := by rw [List.length_take]; omega
 have hel : P.elem t = e := by simp [Program.elem, ht]
 have hu : P.underlying t = some (.slice (P.elem t)) := by rw [hel]; exact ht
 obtain ⟨i, hi, he⟩ := Option.map_eq_some_iff.1 hinfo
 have ha : (A.map fun x => x.add 0) = A := by cases A <;> simp [Addr.add]
 refine ⟨fun W => ?_, fun w h => Kd.C_take h (by omega)⟩
 rw [run_slice_hm W t A xs.length c hu .i64 .i64 j j h0 (Int.le_refl _) (by omega), hel, hl]
 simp [sizeOf, typeInfo, hi, sliced, Result.andThen, ha]
theorem C_cells {α : Type} {d : Kd α} (hs0 : 0 < d.sz) {w : World} {A : Option Addr} {n : Nat} {ys : List α} (h : d.C w A n ys) (hn : 0 < n) :
 ∃ ad cs, A = some ad ∧ Reps (d.K w) d.sz ys cs ∧ (∀ j v, cs[j]? = some v → w.cell? (ad.add j) = some v) ∧ ∀ v ∈ cs, v.oneCell' = true := by
 obtain ⟨hl, -, hg⟩ := h
 obtain ⟨ad, rfl, hc⟩ := hg hn
 have key : ∀ m, m ≤ ys.length → ∃ cs : List Value, Reps (d.K w) d.sz (ys.take m) cs ∧ (∀ j v, cs[j]? = some v → w.cell? (ad.add j) = some v) ∧ ∀ v ∈ cs, v.oneCell' = true := by
  intro m
  induction m with
  | zero => intro _; exact ⟨[], by simpa using Reps.none _ _, by simp, by simp⟩
  | succ m ih =>
   intro hm
   obtain ⟨cs, hr, hcell, h1⟩ := ih (by omega)
   obtain ⟨c, hcl, hK, hcc⟩ := hc m ys[m] (List.getElem?_eq_getElem (by omega))
   have hcs : cs.length = m * d.sz := by rw [hr.1, List.length_take, Nat.min_eq_left (by omega)]
   refine ⟨cs ++ c, ?_, fun j v hj => ?_, fun v hv => ?_⟩
   ·rw [List.take_add_one, List.getElem?_eq_getElem (show m < ys.length by omega)]
    exact Reps.snoc hr hK hcl
   ·rcases Nat.lt_or_ge j cs.length with hlt | hge
    ·rw [List.getElem?_append_left hlt] at hj; exact hcell j v hj
    ·rw [List.getElem?_append_right hge] at hj
     have := hcc (j - cs.length) v hj
     rwa [← hcs, show cs.length + (j - cs.length) = j by omega] at this
   ·rcases List.mem_append.1 hv with h | h
    ·exact h1 v h
    ·exact d.K_one hK v h
 obtain ⟨cs, hr, hcell, h1⟩ := key ys.length (Nat.le_refl _)
 rw [List.take_length] at hr
 exact ⟨ad, cs, rfl, hr, hcell, h1⟩
section
variable {P : Program} {ops : Array Oper} {rest : List Oper} {o : Oper} {a : Act} {Q : Exit → Act → World → Prop}
theorem R_copy_all {α : Type} (d : Kd α) {w0 W : World} (base : Nat) (hgd : o.guard = none) (s x : Operand) (t t' e : TypeId)
 (ho : o.op = .call { callee := .builtin .copy, args := #[s, x], argTypes := #[t, t'] }) (ht : P.underlying t = some (.slice e)) (hinfo : (P.info? e).map (·.size) = some d.sz) (hs0 : 0 < d.sz)
 (v : Value) (xs ys : List α) (A : Option Addr) (m c : Nat) (ok okp : Nat → Prop) (hs : a.eval s = v) (hx : a.eval x = .slice A m c) (hlen : xs.length = m)
 (HO : d.R e W base ok v xs) (HR : d.C W A m ys) (hKM : ∀ W' x cs, d.K W x cs → d.M W' base okp x cs) (hokp : ∀ k, ¬ okp k) (HB : Below base w0 W) (hbase : base ≤ W.heap.size)
 (h : ∀ w1, d.R e w1 base ok v ys → Below base w0 w1 → W.grownBy w1 v.ownBlock → wpList P ops Q rest (a.put o.dst (.int .i64 (m : Int))) w1) :
 wpList P ops Q (o :: rest) a W := by
 obtain ⟨hok, inner, hown, hrep⟩ := HO
 have hm : ys.length = m := HR.1
 have fin : ∀ w1, (Builtin.copy_ #[t, t'] o.type #[v, .slice A m c]).run P W = .ok (goInt (m : Int)) w1 → d.R e w1 base ok v ys → W.grownBy w1 v.ownBlock → wpList P ops Q (o :: rest) a W := by
  intro w1 hr hrow hg
  refine wpList_plain hgd fun K hK => ?_
  unfold Oper.wp execOp
  simp only [ho, resolve, invoke, builtin, Sem.run_bind, Sem.run_pure, Result.andThen_ok, List.map_toArray, List.map_cons, List.map_nil, hs, hx, hr]
  exact hK _ _ (h w1 hrow (HB.grown hg hbase (own_base hown)) hg)
 rcases Nat.eq_zero_or_pos m with h0 | hp
 ·subst h0
  obtain rfl := List.eq_nil_of_length_eq_zero hm
  obtain rfl := List.eq_nil_of_length_eq_zero hlen
  obtain ⟨A', c', hv⟩ := own_slice hown
  refine fin W ?_ ⟨hok, inner, hown, hrep⟩ (World.grownBy.refl W _)
  rw [hv]
  exact run_copy_noneN W t t' o.type e d.sz A' A 0 c' 0 c ht hinfo (by simp)
 ·obtain ⟨ad, cs, rfl, hcr, hcell, h1⟩ := C_cells hs0 HR hp
  rcases hown.2 with ⟨_, hx0⟩ | ⟨g, cap, cur, rfl, hb, hh, hnc, hcm, hcs, htake⟩
  ·omega
  rw [hlen] at hnc htake fin
  have hkl : cs.length = m * d.sz := by rw [hcr.1, hm]
  have hle : m * d.sz ≤ cap * d.sz := Nat.mul_le_mul_right _ hnc
  have hr := run_copy_cellsN (P := P) W t t' o.type e d.sz g 0 m cap ad m c cs ht hinfo (by rw [hkl]; simp) hcell
   (fun j hj => by rw [cell_of_row W g _ cur e (0, 0) hh]; simp; omega) (fun j _ => blk_frozen hh _) h1
  obtain ⟨cur', h3, h4, h5⟩ := setCells_row cs 0 W cur hh (by omega)
  obtain ⟨s1, s2, s3, s4⟩ := setCells_same g cs 0 W
  refine fin _ (by rw [hr]; simp) ⟨hok, cs, ⟨by rw [hkl, hm], .inr ⟨g, cap, cur', by rw [hm], hb, h3, by rw [hm]; exact hnc, hcm, by rw [h4, hcs], ?_⟩⟩, hcr.imp_ (fun p c hp => d.M_mono (fun k hk => (hokp k hk).elim) (hKM _ p c hp))⟩ ⟨s1, s2, s3, by rw [s4]; exact Nat.le_refl _, fun k _ hk => setCells_far _ _ k (fun he => hk (by rw [he]; simp [Value.ownBlock]))⟩
  rw [h5, hm, List.take_zero, List.nil_append, List.take_append_of_le_length (by omega), List.take_of_length_le (by omega)]
def RowF {α : Type} (d : Kd α) (e : Nat) (w : World) (base : Nat) (v : Value) (xs : List α) : Prop := d.R e w base (fun _ => True) v xs ∨ ∃ A, v = .slice A xs.length xs.length ∧ d.C w A xs.length xs
theorem RowF.reads {α : Type} {d : Kd α} {e : Nat} {w : World} {base : Nat} {v : Value} {xs : List α} (h : RowF d e w base v xs) : ∃ A c, v = .slice A xs.length c ∧ xs.length ≤ c ∧ d.C w A xs.length xs := by
 rcases h with h | ⟨A, rfl, h⟩
 ·exact Kd.R_reads h
 ·exact ⟨A, _, rfl, Nat.le_refl _, h⟩
theorem R_append_full {α : Type} (d : Kd α) {w0 W : World} (base : Nat) (hgd : o.guard = none) (s x : Operand) (t e : TypeId) (z : Value) (bytes : Nat)
 (ho : o.op = .call { callee := .builtin .append, args := #[s, x], argTypes := #[t, t] })
 (ht : P.underlying t = some (.slice e)) (hinfo : (P.info? e).map (fun i => (i.zero, i.size, i.bytes)) = some (some z, d.sz, bytes)) (hz : z.cells.size = d.sz) (hs0 : 0 < d.sz) (hb0 : 0 < bytes)
 (v : Value) (xs ys : List α) (A : Option Addr) (m c : Nat) (hs : a.eval s = v) (hx : a.eval x = .slice A m c)
 (HO : RowF d e W base v xs) (HR : d.C W A m ys) (hKM : ∀ W' x cs, d.K W x cs → d.M W' base (fun _ => False) x cs)
 (HB : Below base w0 W) (hbase : base ≤ W.heap.size) (hl : (xs.length + m) * bytes ≤ 140737488355328)
 (h : ∀ v1 w1, RowF d e w1 base v1 (xs ++ ys) → Below base w0 w1 → wpList P ops Q rest (a.put o.dst v1) w1) :
 wpList P ops Q (o :: rest) a W := by
 rcases HO with HO | ⟨A0, rfl, HX⟩
 ·exact Kd.R_append_rows d base hgd s x t e z bytes ho ht hinfo hz hs0 hb0 v xs ys A m c (fun _ => True) (fun _ => False) hs hx HO HR (fun x cs hk => hKM _ _ _ hk) (fun _ h => h.elim) (fun _ _ => trivial) HB hbase hl (fun v1 w1 h1 hb _ _ => h v1 w1 (.inl h1) hb)
 ·obtain ⟨i0, hi, hzz⟩ := Option.map_eq_some_iff.1 hinfo
  simp only [Prod.mk.injEq] at hzz
  obtain ⟨hz0, hz1, hz2⟩ := hzz
  rcases Nat.eq_zero_or_pos m with hm | hm
  ·subst hm
   obtain rfl := List.eq_nil_of_length_eq_zero HR.1
   refine wpList_plain hgd fun K hK => ?_
   have hr := run_append_zero (P := P) W t o.type e i0 ht hi A0 A xs.length c
   unfold Oper.wp execOp
   simp only [ho, resolve, invoke, builtin, Sem.run_bind, Sem.run_pure, Result.andThen_ok, List.map_toArray, List.map_cons, List.map_nil, hs, hx, hr]
   exact hK _ _ (h _ _ (.inr ⟨A0, by rw [List.append_nil], by rw [List.append_nil]; exact HX⟩) HB)
  ·obtain ⟨ad, news, rfl, hnr, hnc, hn1⟩ := C_cells hs0 HR hm
   have hmy : ys.length = m := HR.1
   have hold : ∃ olds : List Value, Reps (d.K W) d.sz xs olds ∧ (∀ b, A0 = some b → ∀ j u, olds[j]? = some u → W.cell? (b.add j) = some u) := by
    rcases Nat.eq_zero_or_pos xs.length with h0 | h0
    ·rw [List.eq_nil_of_length_eq_zero h0]
     exact ⟨[], Reps.none _ _, fun _ _ j u hj => by simp at hj⟩
    ·obtain ⟨ad0, olds, rfl, hor, hoc, -⟩ := C_cells hs0 HX h0
     exact ⟨olds, hor, fun b hb j u hj => by injection hb with hb; subst hb; exact hoc j u hj⟩
   obtain ⟨olds, hor, hoc⟩ := hold
   have hrep : Reps (d.K W) d.sz (xs ++ ys) (olds ++ news) := Kd.reps_append hor hnr
   have hle : xs.length + m ≤ 140737488355328 := Nat.le_trans (Nat.le_mul_of_pos_right _ hb0) hl
   refine wpList_append_grows W hgd s x t ho e i0 z d.sz bytes ht hi hz0 hz1 hz2 hz hs0 A0 xs.length xs.length olds hs (fun hA => ?_) hor.1 hoc ad m c news hx (by rw [hnr.1, hmy]) hnc hn1 (by omega) (by unfold maxLen; omega) hl (fun v1 w1 hown hg => ?_)
   ·rcases Nat.eq_zero_or_pos xs.length with h0 | h0
    ·exact ⟨h0, h0⟩
    ·obtain ⟨ad0, h', _⟩ := HX.2.2 h0
     rw [hA] at h'; cases h'
   ·have hB1 : Below base W w1 := ⟨hg.os, hg.tape, hg.output, hg.size, fun k hk => hg.block k (by omega) (by simp)⟩
    refine h v1 w1 (.inl ⟨fun _ _ => trivial, olds ++ news, ?_, hrep.imp_ (fun p c hp => d.M_mono (fun k hk => hk.elim) (hKM _ p c hp))⟩) (HB.trans hB1)
    have hlen : (xs ++ ys).length = xs.length + m := by rw [List.length_append, hmy]
    rw [hlen]
    exact own_weaken hown hbase
end
end Go.Proofs.YtblcmcdifgclcaaGreat
namespace Go.Proofs.YtblcmcdifgclcaaGreat
open Go.RowKit Go.Proofs.YtblcmcdifgclcaaGreatW.PrintWords Go.Proofs.YtblcmcdifgclcaaGreatW.PrintLast Go.Proofs.YtblcmcdifgclcaaGreatW.PrintMore
theorem cut_drop {P : Program} {α : Type} (d : Kd α) (t e : TypeId) (kl : IntKind) {z : Value} {bytes : Nat} (ht : P.underlying t = some (.slice e)) (hinfo : (P.info? e).map (fun i => (i.zero, i.size, i.bytes)) = some (some z, d.sz, bytes)) (A : Option Addr) (c : Nat) (xs : List α) (j : Int) (h0 : 0 ≤ j) (hm : j ≤ xs.length) (hc : xs.length ≤ c) :
 ∃ A' : Option Addr, (∀ W : World, (Instr.slice t (.slice A xs.length c) (some (.int kl j)) none none).run P W = .ok (.slice A' (xs.drop j.toNat).length (c - j.toNat)) W) ∧
  (∀ w : World, d.C w A xs.length xs → d.C w A' (xs.drop j.toNat).length (xs.drop j.toNat)) ∧ (xs.drop j.toNat).length ≤ c - j.toNat := by
 obtain ⟨i, hi, he⟩ := Option.map_eq_some_iff.1 hinfo
 simp only [Prod.mk.injEq] at he
 refine ⟨_, fun W => ?_, fun w h => Kd.C_drop h (by omega) hc, by rw [List.length_drop]; omega⟩
 rw [cut_from t e kl ht hi d.sz he.2.1 A xs.length c j h0 hm W, List.length_drop]
theorem cut_take {P : Program} {α : Type} (d : Kd α) (t e : TypeId) (kl : IntKind) {z : Value} {bytes : Nat} (ht : P.underlying t = some (.slice e)) (hinfo : (P.info? e).map (fun i => (i.zero, i.size, i.bytes)) = some (some z, d.sz, bytes)) (A : Option Addr) (c : Nat) (xs : List α) (j : Int) (h0 : 0 ≤ j) (hm : j ≤ xs.length) (hc : xs.length ≤ c) :
 (∀ W : World, (Instr.slice t (.slice A xs.length c) none (some (.int kl j)) none).run P W = .ok (.slice A (xs.take j.toNat).length c) W) ∧
  (∀ w : World, d.C w A xs.length xs → d.C w A (xs.take j.toNat).length (xs.take j.toNat)) ∧ (xs.take j.toNat).length ≤ c := by
 obtain ⟨i, hi, he⟩ := Option.map_eq_some_iff.1 hinfo
 have hl : (xs.take j.toNat).length = j.toNat := by rw [List.length_take]; omega
 refine ⟨fun W => ?_, fun w h => Kd.C_take h (by omega), by rw [hl]; omega⟩
 rw [cut_to t e kl ht hi A xs.length c j h0 hm hc W, hl]
theorem grown_trans {w w1 w2 : World} {row row2 : Option Nat} (h : w.grownBy w1 row) (k : w1.grownBy w2 row2) (hr : ∀ b, row2 = some b → row = some b ∨ w.heap.size ≤ b) : w.grownBy w2 row :=
 ⟨k.os.trans h.os, k.tape.trans h.tape, k.output.trans h.output, Nat.le_trans h.size k.size, fun i hi hne => by
  refine (k.block i (Nat.lt_of_lt_of_le hi h.size) (fun he => ?_)).trans (h.block i hi hne)
  rcases hr i he.symm with h2 | h2
  ·exact hne h2.symm
  ·omega⟩
theorem grown_refl (w : World) (row : Option Nat) : w.grownBy w row := ⟨rfl, rfl, rfl, Nat.le_refl _, fun _ _ _ => rfl⟩
theorem grown_set {w w1 : World} {g : Nat} (h : w.grownBy w1 (some g)) (j : Nat) (u : Value) : w.grownBy (w1.setCell ⟨g, j, none⟩ u) (some g) :=
 grown_trans h (row2 := some g) ⟨rfl, rfl, rfl, by simp [World.setCell], fun i _ hne => Below.heap_setCell w1 ⟨g, j, none⟩ u i (fun e => hne (by rw [e]))⟩ (fun b hb => .inl hb)
end Go.Proofs.YtblcmcdifgclcaaGreat
namespace Go.Proofs.YtblcmcdifgclcaaGreat
open Go.RowKit Go.Proofs.YtblcmcdifgclcaaGreatW.PrintWords
theorem isSome_setCell (w : World) (a b : Addr) (v : Value) : ((w.setCell a v).cell? b).isSome = (w.cell? b).isSome := by
 unfold World.cell? World.setCell
 by_cases h : a.block = b.block
 ·simp only [h]
  cases hb : w.heap[b.block]? with
  | none => simp [Array.getElem?_modify, hb]
  | some o =>
   cases o with
   | cells c t fr =>
    simp only [Array.getElem?_modify, hb, if_pos, Option.map_some]
    by_cases hs : b.spot.isSome = true
    ·simp [hs]
    ·by_cases ha : a.spot.isSome = true
     ·simp [hs, ha]
     ·by_cases ho : a.off = b.off
      ·by_cases hlt : b.off < c.size
       ·simp [hs, ha, ho, hlt]
       ·simp [hs, ha, ho, hlt]
      ·simp [hs, ha, ho]
   | _ => simp [Array.getElem?_modify, hb]
 ·simp [Array.getElem?_modify, h]
end Go.Proofs.YtblcmcdifgclcaaGreat
