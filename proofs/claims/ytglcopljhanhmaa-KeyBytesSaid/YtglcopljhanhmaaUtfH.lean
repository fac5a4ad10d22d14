/- What the law of layer 2 knows: the walk. -/
import Derived.Test.YtglcopljhanhmaaUtfG
import Derived.Lib.SlBytesConst
import Derived.Sort.AtCall
namespace Go.Proofs.Ytglcopljhanhmaa
open Go.RowKit Go.Proofs.YtglcopljhanhmaaW.PrintWords Go.Proofs.YtglcopljhanhmaaW.PrintLast Go.Proofs.YtglcopljhanhmaaW.PrintMore
set_option linter.unusedVariables false
set_option linter.unusedSimpArgs false
theorem C_cells {k : IntKind} (w : World) (xs : List Int) (e : Nat) (fr : Nat × Nat) (h : xs.length ≤ 9223372036854775807) : (Kd.int k).C (w.alloc (.cells (xs.map (Value.int k)).toArray e fr)) (some ⟨w.heap.size, 0, none⟩) xs.length xs := by
  refine ⟨rfl, h, fun hn => ⟨_, rfl, fun j p hj => ⟨[.int k p], rfl, rfl, fun i u hu => ?_⟩⟩⟩
  obtain ⟨hl, hp⟩ := List.getElem?_eq_some_iff.1 hj
  have hi : i = 0 := by
    rcases i with _ | i
    · rfl
    · simp at hu
  subst hi
  simp at hu
  subst hu
  show (w.alloc (.cells (xs.map (Value.int k)).toArray e fr)).cell? (Addr.add ⟨w.heap.size, 0, none⟩ (j * 1 + 0)) = _
  have ea : Addr.add ⟨w.heap.size, 0, none⟩ (j * 1 + 0) = ⟨w.heap.size, j, none⟩ := by
    by_cases hj0 : j = 0
    · subst hj0; simp [Addr.add]
    · simp [Addr.add, hj0]
  rw [ea, World.cell?_alloc_mark]
  simp [hl, hp]
abbrev RunesC : Prop := ∀ (A : Option Addr) (c : Nat) (l r : List Int) (w : World), runesZ l = r → (Kd.int .u8).C w A l.length l → l.length ≤ c → In8u l → l.length ≤ 1000000 →
      Calls Try.prog 19 #[.slice A l.length c] w fun e w' => ∃ v, e = .returned v ∧ Kd.R (Kd.int .i32) 21 w' w.heap.size (fun _ => True) v r ∧ Below w.heap.size w w'
abbrev SameC : Prop := ∀ (A0 : Option Addr) (c0 : Nat) (A1 : Option Addr) (c1 : Nat) (l : List Int) (w : World), (l.length ≤ 100 ∧ ∀ x ∈ l, -2147483648 ≤ x ∧ x ≤ 2147483647) → (Kd.int .i32).C w A0 l.length l → l.length ≤ c0 → (Kd.int .i64).C w A1 l.length l → l.length ≤ c1 →
      Calls Try.prog 18 #[.slice A0 l.length c0, .slice A1 l.length c1] w fun e w' => e = .returned (.bool true) ∧ Below w.heap.size w w'
theorem in8_3 {a b c : Int} (ha : 0 ≤ a ∧ a ≤ 255) (hb : 0 ≤ b ∧ b ≤ 255) (hc : 0 ≤ c ∧ c ≤ 255) : In8u [a, b, c] := by
  intro x hx; simp at hx; rcases hx with rfl | rfl | rfl <;> assumption
set_option maxHeartbeats 4000000 in
set_option maxRecDepth 100000 in
theorem known_walk (hR : RunesC) (hS : SameC) (w : World) : Calls Try.prog 17 #[] w fun e w' => e = .returned (.bool true) ∧ Below w.heap.size w w' := by
  have HR := Aside0.mk hR
  have HS := Aside0.mk hS
  clear hR hS
  have kc := fun (w : World) (C : Array Value) (n c : Nat) => Lib.run_convert_bytes_const (P := Try.prog) w 22 5 C n c Try.underlying22 Try.underlying5
  have R1 := Aside0.mk (show runesZ [97, 195, 169] = [97, 233] by kernel_rfl)
  have R2 := Aside0.mk (show runesZ [226, 130, 65] = [65533, 65] by kernel_rfl)
  have R3 := Aside0.mk (show runesZ [237, 160, 128] = [65533, 65533, 65533] by kernel_rfl)
  go_enter Try.func17, Try.ntmps17
  go_wp2_with (first | (go_at_call_has 19 w; go_must (refine (HR.out (some ⟨w.heap.size, 0, none⟩) 3 [97, 195, 169] [97, 233] _ R1.out (C_cells w [97, 195, 169] 5 (3, 4) (by decide)) (by decide) (in8_3 (by omega) (by omega) (by omega)) (by decide)).mono ?_); rintro e w1 ⟨v, rfl, hR, hb⟩; obtain ⟨A1, c1, rfl, hc1, hC1⟩ := Kd.R_reads hR; have HC1 := Aside0.mk hC1; have HK1 := Aside0.mk hc1; have HB1 := Aside0.mk (below_step (below_alloc (Below.refl _ _) _) hb); clear hR hb hC1 hc1) | (go_at_call_has 18 A1; go_must (refine (HS.out A1 c1 (some ⟨w1.heap.size, 0, none⟩) 2 [97, 233] _ (by decide) (Kd.C_alloc HC1.out _) HK1.out (C_cells w1 [97, 233] 3 (0, 0) (by decide)) (by decide)).mono ?_); rintro e w2 ⟨rfl, hb⟩; have HB2 := Aside0.mk (below_step (below_alloc HB1.out _) hb); clear hb) | (go_at_call_has 19 w2; go_must (refine (HR.out (some ⟨w2.heap.size, 0, none⟩) 3 [226, 130, 65] [65533, 65] _ R2.out (C_cells w2 [226, 130, 65] 5 (0, 0) (by decide)) (by decide) (in8_3 (by omega) (by omega) (by omega)) (by decide)).mono ?_); rintro e w3 ⟨v, rfl, hR, hb⟩; obtain ⟨A3, c3, rfl, hc3, hC3⟩ := Kd.R_reads hR; have HC3 := Aside0.mk hC3; have HK3 := Aside0.mk hc3; have HB3 := Aside0.mk (below_step (below_alloc HB2.out _) hb); clear hR hb hC3 hc3) | (go_at_call_has 18 A3; go_must (refine (HS.out A3 c3 (some ⟨w3.heap.size, 0, none⟩) 2 [65533, 65] _ (by decide) (Kd.C_alloc HC3.out _) HK3.out (C_cells w3 [65533, 65] 3 (0, 0) (by decide)) (by decide)).mono ?_); rintro e w4 ⟨rfl, hb⟩; have HB4 := Aside0.mk (below_step (below_alloc HB3.out _) hb); clear hb) | (go_at_call_has 19 w4; go_must (refine (HR.out (some ⟨w4.heap.size, 0, none⟩) 3 [237, 160, 128] [65533, 65533, 65533] _ R3.out (C_cells w4 [237, 160, 128] 5 (0, 0) (by decide)) (by decide) (in8_3 (by omega) (by omega) (by omega)) (by decide)).mono ?_); rintro e w5 ⟨v, rfl, hR, hb⟩; obtain ⟨A5, c5, rfl, hc5, hC5⟩ := Kd.R_reads hR; have HC5 := Aside0.mk hC5; have HK5 := Aside0.mk hc5; have HB5 := Aside0.mk (below_step (below_alloc HB4.out _) hb); clear hR hb hC5 hc5) | (go_at_call_has 18 A5; go_must (refine (HS.out A5 c5 (some ⟨w5.heap.size, 0, none⟩) 3 [65533, 65533, 65533] _ (by decide) (Kd.C_alloc HC5.out _) HK5.out (C_cells w5 [65533, 65533, 65533] 3 (0, 0) (by decide)) (by decide)).mono ?_); rintro e w6 ⟨rfl, hb⟩; have HB6 := Aside0.mk (below_step (below_alloc HB5.out _) hb); clear hb)
    )
  go_ret
  exact ⟨rfl, HB6.out⟩
end Go.Proofs.Ytglcopljhanhmaa
