/- A store leaves each cell that is there in its place. -/
import Derived.Test.YtlllbaieidbcdaaWMore
import Derived.Test.YtlllbaieidbcdaaLit
import Derived.Lib.SlBytesConst
import Derived.BigFrame
namespace Go.Proofs.Ytlllbaieidbcdaa
open Go.RowKit Go.Proofs.YtlllbaieidbcdaaW.PrintWords
/-- '[]byte(s)': a row that is only read. -/
theorem bytes_event {P : Program} {ops : Array Oper} {rest : List Oper} {o : Oper} {a : Act} {Q : Exit → Act → World → Prop} {W : World} (hgd : o.guard = none) (src dst e : TypeId) {u : TypeDesc} (x : Operand) (s : ByteArray)
    (ho : o.op = .convert src dst x) (hx : a.eval x = .string s) (hs : P.underlying src = some u) (hd : P.underlying dst = some (.slice e)) (he : P.underlying e = some (.int .u8)) (hsz : s.size ≤ 140737488355327)
    (h : ∀ (ad : Addr) (c : Nat) (w1 : World), Kd.C (Kd.int .u8) w1 (some ad) (bytesOf s).length (bytesOf s) → (bytesOf s).length ≤ c → Below W.heap.size W w1 → wpList P ops Q rest (a.put o.dst (.slice (some ad) (bytesOf s).length c)) w1) : wpList P ops Q (o :: rest) a W := by
  refine Kd.event_run hgd (v := .slice (some ⟨W.heap.size, 0, none⟩) s.size (grownCap W s.size 0 e)) (w1 := Lib.bytesWorld W e s) ?_ ?_
  · have hrun := print_bytes (P := P) src dst e hs hd he s W
    obtain ⟨d_, p_, ty_, ps_, af_, gd_⟩ := o
    dsimp only at ho
    subst ho
    obtain ⟨ev, hev⟩ : ∃ ev, ev = a.eval := ⟨_, rfl⟩
    rw [← hev] at hx ⊢
    simp [execOp, hx, go_sem, hrun]
  · have hh := h ⟨W.heap.size, 0, none⟩ (grownCap W s.size 0 e) (Lib.bytesWorld W e s) (Kd.C_of_reads (h1 := fun _ => rfl) (by rw [bytesOf_length]; exact bytes_reads W e s (by omega))) (by rw [bytesOf_length]; exact grownCap_ge W s.size 0 e) (bytes_below (Below.refl _ _) (Nat.le_refl _) e s)
    rw [bytesOf_length] at hh
    exact hh
/-- '[]byte("abc")' of a constant: a literal's row, and a conversion of the slice to its own type behind it: a row that is only read, as long as it has room. -/
theorem const_event {P : Program} {ops : Array Oper} {rest : List Oper} {o o2 : Oper} {a : Act} {Q : Exit → Act → World → Prop} {W : World} (hgd : o.guard = none) (hgd2 : o2.guard = none) (t e : TypeId) (x : Operand) (xs : List Int)
    (hr : (execOp a.eval o).run P W = .ok (.value (.slice (some ⟨W.heap.size, 0, none⟩) xs.length xs.length)) (W.alloc (.cells (nums .u8 xs).toArray e)))
    (ho : o2.op = .convert t t x) (hx : (a.put o.dst (.slice (some ⟨W.heap.size, 0, none⟩) xs.length xs.length)).eval x = .slice (some ⟨W.heap.size, 0, none⟩) xs.length xs.length)
    (ht : P.underlying t = some (.slice e)) (he : P.underlying e = some (.int .u8)) (hm : xs.length ≤ 9223372036854775807)
    (h : ∀ (ad : Addr) (w1 : World), Kd.C (Kd.int .u8) w1 (some ad) xs.length xs → Below W.heap.size W w1 → wpList P ops Q rest ((a.put o.dst (.slice (some ad) xs.length xs.length)).put o2.dst (.slice (some ad) xs.length xs.length)) w1) : wpList P ops Q (o :: o2 :: rest) a W := by
  refine Kd.event_run hgd hr ?_
  refine Kd.event_run hgd2 (v := .slice (some ⟨W.heap.size, 0, none⟩) xs.length xs.length) (w1 := W.alloc (.cells (nums .u8 xs).toArray e ((nums .u8 xs).toArray.size, (nums .u8 xs).toArray.size + 1))) ?_ ?_
  · have hrun := Lib.run_convert_bytes_const (P := P) W t e (nums .u8 xs).toArray xs.length xs.length ht he
    obtain ⟨d_, p_, ty_, ps_, af_, gd_⟩ := o2
    dsimp only at ho
    subst ho
    obtain ⟨ev, hev⟩ : ∃ ev, ev = (a.put o.dst (.slice (some ⟨W.heap.size, 0, none⟩) xs.length xs.length)).eval := ⟨_, rfl⟩
    rw [← hev] at hx ⊢
    simp only [execOp, hx]
    rw [Sem.run_bind, hrun]
    rfl
  · refine h ⟨W.heap.size, 0, none⟩ _ ?_ (below_alloc (Below.refl _ _) _)
    refine Kd.C_of_reads (d := (0 : Int)) (h1 := fun _ => rfl) ⟨rfl, hm, fun _ => ⟨_, rfl, fun j hj => ?_⟩⟩
    rw [add_plain]
    have : (W.alloc (.cells (nums .u8 xs).toArray e ((nums .u8 xs).toArray.size, (nums .u8 xs).toArray.size + 1))).cell? ⟨W.heap.size, j, none⟩ = (nums .u8 xs).toArray[j]? := cell_of_row _ _ j _ _ _ (heap_alloc_new _ _)
    rw [this]
    simp [nums, List.getElem?_eq_getElem hj, List.getD_eq_getElem?_getD]
/-- An append to a row that is full: a new row. -/
theorem full_append {P : Program} {ops : Array Oper} {rest : List Oper} {o : Oper} {a : Act} {Q : Exit → Act → World → Prop} {W : World} (hgd : o.guard = none) (s x : Operand) (t e : TypeId)
    (ho : o.op = .call { callee := .builtin .append, args := #[s, x], argTypes := #[t, t] }) (ht : P.underlying t = some (.slice e)) (hinfo : (P.info? e).map (fun i => (i.zero, i.size, i.bytes)) = some (some (.int .u8 0), 1, 1))
    (A : Option Addr) (n m : Nat) (B : Option Addr) (c : Nat) (xs ys : List Int) (hs : a.eval s = .slice A n n) (hx : a.eval x = .slice B m c)
    (HX : Kd.C (Kd.int .u8) W A n xs) (HY : Kd.C (Kd.int .u8) W B m ys) (hn : 0 < n) (hp : 0 < m) (hl : n + m < 140737488355328)
    (h : ∀ v1 w1, Kd.R (Kd.int .u8) e w1 W.heap.size (fun _ => True) v1 (xs ++ ys) → Below W.heap.size W w1 → wpList P ops Q rest (a.put o.dst v1) w1) : wpList P ops Q (o :: rest) a W := by
  obtain ⟨i, hi, he⟩ := Option.map_eq_some_iff.1 hinfo
  simp only [Prod.mk.injEq] at he
  obtain ⟨hz0, hz1, hz2⟩ := he
  obtain ⟨x1, x2, x3⟩ := Kd.reads_of_C (enc := Value.int .u8) (d := (0 : Int)) (h1 := fun _ => rfl) HX
  obtain ⟨y1, y2, y3⟩ := Kd.reads_of_C (enc := Value.int .u8) (d := (0 : Int)) (h1 := fun _ => rfl) HY
  obtain ⟨ad, rfl, hca⟩ := x3 hn
  obtain ⟨bd, rfl, hcb⟩ := y3 hp
  have cells : ∀ (zs : List Int) (k : Nat) (p : Addr), zs.length = k → (∀ j, j < k → W.cell? (p.add j) = some (.int .u8 (zs.getD j 0))) → ∀ j v, (nums .u8 zs)[j]? = some v → W.cell? (p.add j) = some v := by
    intro zs k p hk hc j v hv
    obtain ⟨hj, rfl⟩ := List.getElem?_eq_some_iff.1 hv
    rw [nums_length] at hj
    rw [hc j (by omega)]
    simp [nums, List.getD_eq_getElem?_getD, List.getElem?_eq_getElem hj]
  have hr := run_append_grow (P := P) W t 0 e i (.int .u8 0) ht hi hz0 ad n n (nums .u8 xs) (by rw [nums_length, hz1]; omega) (cells xs n ad x1 hca) bd m c (nums .u8 ys) (by rw [nums_length, hz1]; omega) (cells ys m bd y1 hcb) (by omega) (by omega) (growslice_fits (by omega) (by rw [hz2]; omega))
  have hge := grownCap_ge W (n + m) n e
  have hcm : grownCap W (n + m) n e ≤ maxLen := grownCap_le_maxLen W (n + m) n e (by unfold maxLen; omega)
  have hall : (nums .u8 xs).toArray ++ (nums .u8 ys).toArray ++ Builtin.zeroCells (Value.int .u8 0).cells (grownCap W (n + m) n e - (n + m)) = (nums .u8 xs).toArray ++ (nums .u8 ys).toArray ++ Builtin.zeroCells (Value.int .u8 0).cells (grownCap W (n + m) n e - (n + m)) := rfl
  refine Kd.event_run hgd (v := .slice (some ⟨W.heap.size, 0, none⟩) (n + m) (grownCap W (n + m) n e)) (w1 := W.drew.alloc (.cells ((nums .u8 xs).toArray ++ (nums .u8 ys).toArray ++ Builtin.zeroCells (Value.int .u8 0).cells (grownCap W (n + m) n e - (n + m))) e)) ?_ ?_
  · obtain ⟨d_, p_, ty_, ps_, af_, gd_⟩ := o
    dsimp only at ho
    subst ho
    obtain ⟨ev, hev⟩ : ∃ ev, ev = a.eval := ⟨_, rfl⟩
    rw [← hev] at hs hx ⊢
    have hr2 := run_append_grow (P := P) W t ty_ e i (.int .u8 0) ht hi hz0 ad n n (nums .u8 xs) (by rw [nums_length, hz1]; omega) (cells xs n ad x1 hca) bd m c (nums .u8 ys) (by rw [nums_length, hz1]; omega) (cells ys m bd y1 hcb) (by omega) (by omega) (growslice_fits (by omega) (by rw [hz2]; omega))
    rw [BigFrame.execOp_builtin, BigFrame.builtin_append]
    simp only [List.map_toArray, List.map_cons, List.map_nil, hs, hx]
    rw [Sem.run_bind, hr2]
    rfl
  · have hlen : (xs ++ ys).length = n + m := by rw [List.length_append]; omega
    refine h _ _ ?_ ⟨rfl, rfl, rfl, by simp, fun k hk => heap_alloc_old W.drew _ hk⟩
    have ho1 : (W.drew.alloc (.cells ((nums .u8 xs).toArray ++ (nums .u8 ys).toArray ++ Builtin.zeroCells (Value.int .u8 0).cells (grownCap W (n + m) n e - (n + m))) e)).ownsRow W.heap.size e 1 (.slice (some ⟨W.heap.size, 0, none⟩) (n + m) (grownCap W (n + m) n e)) (xs ++ ys).length (encs (Value.int .u8) (xs ++ ys)) := by
      refine ⟨by simp [encs], .inr ⟨W.heap.size, _, _, by rw [hlen], Nat.le_refl _, heap_alloc_new W.drew _, by rw [hlen]; exact hge, hcm, ?_, ?_⟩⟩
      · simp only [Array.size_append, List.size_toArray, nums_length, size_zeroCells]
        have hzc : (Value.int IntKind.u8 0).cells.size = 1 := rfl
        rw [hzc]
        omega
      · simp only [Array.toList_append, hlen]
        rw [List.take_append_of_le_length (by simp [nums_length]; omega), List.take_of_length_le (by simp [nums_length]; omega)]
        simp [encs, nums]
    have := Kd.R_of_own (h1 := fun _ => rfl) (ok := fun _ => True) ho1 (fun _ _ => trivial)
    exact this
theorem isSome_setCell (w : World) (a b : Addr) (v : Value) : ((w.setCell a v).cell? b).isSome = (w.cell? b).isSome := by
  unfold World.cell? World.setCell
  by_cases h : a.block = b.block
  · simp only [h]
    cases hb : w.heap[b.block]? with
    | none => simp [Array.getElem?_modify, hb]
    | some o =>
      cases o with
      | cells c t fr =>
        simp only [Array.getElem?_modify, hb, if_pos, Option.map_some]
        by_cases hs : b.spot.isSome = true
        · simp [hs]
        · by_cases ha : a.spot.isSome = true
          · simp [hs, ha]
          · by_cases ho : a.off = b.off
            · by_cases hlt : b.off < c.size
              · simp [hs, ha, ho, hlt]
              · simp [hs, ha, ho, hlt]
            · simp [hs, ha, ho]
      | _ => simp [Array.getElem?_modify, hb]
  · simp [Array.getElem?_modify, h]
theorem cell_set_twice (w : World) (a : Addr) (u v : Value) (h : (w.cell? a).isSome = true) : ((w.setCell a u).setCell a v).cell? a = some v :=
  World.cell?_setCell_same' _ a v (by rw [isSome_setCell]; exact h)
theorem cell_set_twice2 (w : World) (a b : Addr) (u v x : Value) (h : (w.cell? a).isSome = true) : (((w.setCell a u).setCell b x).setCell a v).cell? a = some v :=
  World.cell?_setCell_same' _ a v (by rw [isSome_setCell, isSome_setCell]; exact h)
end Go.Proofs.Ytlllbaieidbcdaa
