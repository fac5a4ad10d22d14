/- What the law of layer 8 knows. -/
import Derived.Test.YtlllbaieidbcdaaPaI
import Derived.Lib.SlBytesConst
namespace Go.Proofs.Ytlllbaieidbcdaa.Str
open Go.RowKit Go.Proofs.Ytlllbaieidbcdaa Go.Proofs.Ytlllbaieidbcdaa.PParseEvents Go.Proofs.YtlllbaieidbcdaaW.PrintWords Go.Proofs.YtlllbaieidbcdaaW.PrintLast Go.Proofs.YtlllbaieidbcdaaW.PrintMore
set_option linter.unusedVariables false
set_option linter.unusedSimpArgs false
theorem C_cells {k : IntKind} (w : World) (xs : List Int) (e : Nat) (fr : Nat × Nat) (h : xs.length ≤ 9223372036854775807) : (Kd.int k).C (w.alloc (.cells (xs.map (Value.int k)).toArray e fr)) (some ⟨w.heap.size, 0, none⟩) xs.length xs := by
  refine ⟨rfl, h, fun hn => ⟨_, rfl, fun j p hj => ⟨[.int k p], rfl, rfl, fun i u hu => ?_⟩⟩⟩
  obtain ⟨hl, hp⟩ := List.getElem?_eq_some_iff.1 hj
  have hi : i = 0 := by
    rcases i with _ | i
    · rfl
    · simp at hu
  subst hi
  simp at hu
  subst hu
  show (w.alloc (.cells (xs.map (Value.int k)).toArray e fr)).cell? (Addr.add ⟨w.heap.size, 0, none⟩ (j * 1 + 0)) = _
  have ea : Addr.add ⟨w.heap.size, 0, none⟩ (j * 1 + 0) = ⟨w.heap.size, j, none⟩ := by
    by_cases hj0 : j = 0
    · subst hj0; simp [Addr.add]
    · simp [Addr.add, hj0]
  rw [ea, World.cell?_alloc_mark]
  simp [hl, hp]
theorem evs_C {W : World} {g1 g2 g3 : Nat} {fr : Nat × Nat} (hb : W.heap[g3]? = some (.cells #[.int .i64 3, .int .i64 109, .slice (some ⟨g1, 0, none⟩) 2 2, .int .i64 1, .int .i64 97, .slice none 0 0, .int .i64 3, .int .i64 72, .slice (some ⟨g2, 0, none⟩) 2 2] 48 (0, 0)))
    (h1 : Kd.C (Kd.int .i64) W (some ⟨g1, 0, none⟩) 2 [1, 31]) (h2 : Kd.C (Kd.int .i64) W (some ⟨g2, 0, none⟩) 2 [-1, 5]) : Kd.C k48 W (some ⟨g3, 0, none⟩) 3 [⟨3, 109, [1, 31]⟩, ⟨1, 97, []⟩, ⟨3, 72, [-1, 5]⟩] := by
  refine ⟨rfl, by omega, fun _ => ⟨_, rfl, fun j p hp => ?_⟩⟩
  have ea : ∀ n, (⟨g3, 0, none⟩ : Addr).add n = ⟨g3, n, none⟩ := fun n => by cases n <;> simp [Addr.add]
  have key : ∀ (n i : Nat) (u : Value) (cs : List Value), cs[i]? = some u → (∀ k : Nat, cs[k]? = (#[Value.int .i64 3, .int .i64 109, .slice (some ⟨g1, 0, none⟩) 2 2, .int .i64 1, .int .i64 97, .slice none 0 0, .int .i64 3, .int .i64 72, .slice (some ⟨g2, 0, none⟩) 2 2] : Array Value)[n + k]? ∨ cs[k]? = none) → W.cell? ((⟨g3, 0, none⟩ : Addr).add (n + i)) = some u := by
    intro n i u cs hu h
    rw [ea, blk_cell hb]
    rcases h i with h | h
    · rw [← h]; exact hu
    · rw [h] at hu; cases hu
  match j, hp with
  | 0, hp =>
    obtain rfl := Option.some.inj hp
    exact ⟨_, rfl, k48_mk W ⟨3, 109, [1, 31]⟩ (c2 := 2) (Nat.le_refl _) h1, fun i u hu => key (0 * 3) i u _ hu (fun k => match k with | 0 => .inl rfl | 1 => .inl rfl | 2 => .inl rfl | k + 3 => .inr (by simp))⟩
  | 1, hp =>
    obtain rfl := Option.some.inj hp
    exact ⟨_, rfl, k48_mk W ⟨1, 97, []⟩ (c2 := 0) (Nat.le_refl _) (Kd.C_nil _ _), fun i u hu => key (1 * 3) i u _ hu (fun k => match k with | 0 => .inl rfl | 1 => .inl rfl | 2 => .inl rfl | k + 3 => .inr (by simp))⟩
  | 2, hp =>
    obtain rfl := Option.some.inj hp
    exact ⟨_, rfl, k48_mk W ⟨3, 72, [-1, 5]⟩ (c2 := 2) (Nat.le_refl _) h2, fun i u hu => key (2 * 3) i u _ hu (fun k => match k with | 0 => .inl rfl | 1 => .inl rfl | 2 => .inl rfl | k + 3 => .inr (by simp))⟩
abbrev L19 : List Int := [27, 91, 49, 59, 51, 49, 109, 97, 27, 91, 59, 53, 72, 27, 91, 63, 50, 53, 104]
abbrev E19 : List S46 := [⟨3, 109, [1, 31]⟩, ⟨1, 97, []⟩, ⟨3, 72, [-1, 5]⟩]
theorem all19 : allV L19 = E19 := by kernel_rfl
abbrev F19 : List S48 := [⟨3, 109, [1, 31]⟩, ⟨1, 97, []⟩, ⟨3, 72, [-1, 5]⟩]
theorem small19 : smallEv E19 10 := by
  intro x hx
  simp at hx
  rcases hx with rfl | rfl | rfl <;> simp
theorem alloc_size1 (w : World) (o : Obj) : (w.alloc o).heap.size = w.heap.size + 1 := by show (w.heap.push _).size = _; simp
theorem blk33 (w : World) (o1 o2 o3 : Obj) : (((w.alloc o1).alloc o2).alloc o3).heap[w.heap.size + 1 + 1]? = some o3 := by
  have := blk_new ((w.alloc o1).alloc o2) o3
  rwa [alloc_size1, alloc_size1] at this
theorem c32 (w : World) (o1 o3 : Obj) (xs : List Int) (h : xs.length ≤ 9223372036854775807) : (Kd.int .i64).C (((w.alloc o1).alloc (.cells (xs.map (Value.int .i64)).toArray 3 (0, 0))).alloc o3) (some ⟨w.heap.size + 1, 0, none⟩) xs.length xs := by
  have := Kd.C_alloc (C_cells (k := .i64) (w.alloc o1) xs 3 (0, 0) h) o3
  rwa [alloc_size1] at this
theorem c31 (w : World) (o2 o3 : Obj) (xs : List Int) (h : xs.length ≤ 9223372036854775807) : (Kd.int .i64).C (((w.alloc (.cells (xs.map (Value.int .i64)).toArray 3 (0, 0))).alloc o2).alloc o3) (some ⟨w.heap.size, 0, none⟩) xs.length xs :=
  Kd.C_alloc (Kd.C_alloc (C_cells (k := .i64) w xs 3 (0, 0) h) o2) o3
theorem same19 (A1 : Option Addr) (c1 : Nat) (g : Nat) (W : World) (hC : Kd.C kEv W A1 E19.length E19) (hc : E19.length ≤ c1) (hC' : Kd.C k48 W (some ⟨g, 0, none⟩) F19.length F19) :
    Calls Try.prog 8 #[.slice A1 3 c1, .slice (some ⟨g, 0, none⟩) 3 3] W fun e w' => e = .returned (.bool true) ∧ Below W.heap.size W w' :=
  Same_ev A1 c1 E19 (some ⟨g, 0, none⟩) 3 F19 W hC hc hC' (by decide) 10 (by decide) small19 (by decide) (r := true) (by decide)
set_option maxHeartbeats 4000000 in
set_option maxRecDepth 100000 in
theorem known8 (w : World) : Calls Try.prog 13 #[] w fun e w' => e = .returned (.bool true) ∧ Below w.heap.size w w' := by
  have kc := fun (w : World) (C : Array Value) (n c : Nat) => Lib.run_convert_bytes_const (P := Try.prog) w 29 5 C n c Try.underlying29 Try.underlying5
  have HA := Aside0.mk (PAll_any (some ⟨w.heap.size, 0, none⟩) 19 L19 _ (C_cells w L19 5 (19, 20) (by decide)) (fun x hx => by simp at hx; omega) (by decide))
  rw [all19] at HA
  go_enter Try.func13, Try.ntmps13
  go_wp2_with (first | (go_at_call 19; go_must (refine HA.out.mono ?_); rintro e w1 ⟨A1, c1, rfl, hc1, hC1, hb1⟩; have H1 := Aside0.mk (And.intro hc1 (And.intro hC1 (below_step (below_alloc (Below.refl _ _) _) hb1))); clear hc1 hC1 hb1) | (go_at_call 8; go_must (refine (same19 A1 c1 _ _ (Kd.C_alloc (Kd.C_alloc (Kd.C_alloc H1.out.2.1 _) _) _) H1.out.1 (evs_C (fr := (0, 0)) (g1 := w1.heap.size) (g2 := w1.heap.size + 1) ?h3 ?h1 ?h2)).mono ?_); go_must (case h3 => exact blk33 _ _ _ _); go_must (case h1 => exact c31 w1 _ _ [1, 31] (by decide)); go_must (case h2 => exact c32 w1 _ _ [-1, 5] (by decide)); rintro e w2 ⟨rfl, hb⟩; have HB2 := Aside0.mk (below_step (below_alloc (below_alloc (below_alloc H1.out.2.2 _) _) _) hb); clear hb))
  go_ret
  exact ⟨rfl, HB2.out⟩
end Go.Proofs.Ytlllbaieidbcdaa.Str
