/- The chapter's examples of keys. -/
import Derived.Test.YtglcopljhanhmaaKeyC
import Derived.Test.YtglcopljhanhmaaUtfH
namespace Go.Proofs.Ytglcopljhanhmaa
open Go.RowKit Go.Proofs.YtglcopljhanhmaaW.PrintWords Go.Proofs.YtglcopljhanhmaaW.PrintLast Go.Proofs.YtglcopljhanhmaaW.PrintMore
set_option linter.unusedVariables false
set_option linter.unusedSimpArgs false
theorem of_a : ofK [97] = (1, 97) := by decide +kernel
theorem of_ab : ofK [97, 98] = (8, 0) := by decide +kernel
theorem split_3 : (splitZ [97, 195, 169, 27, 91, 67]).length = 3 := by decide +kernel
set_option maxHeartbeats 4000000 in
set_option maxRecDepth 100000 in
theorem known22_walk
    (hO : ∀ (A : Option Addr) (c : Nat) (l : List Int) (r1 r2 : Int) (w : World), (Kd.int .u8).C w A l.length l → l.length ≤ c → In8u l → l.length ≤ 1000 → ofK l = (r1, r2) → Calls Try.prog 46 #[.slice A l.length c] w fun e w' => e = .returned (.agg #[.int .i64 r1, .int .i32 r2]) ∧ Below w.heap.size w w')
    (hS : ∀ (A : Option Addr) (c : Nat) (l : List Int) (w : World), (Kd.int .u8).C w A l.length l → l.length ≤ c → In8u l → l.length ≤ 1000 → Calls Try.prog 43 #[.slice A l.length c] w fun e w' => ∃ v, e = .returned v ∧ Kd.S (Kd.slice 5 (Kd.int .u8)) 22 w' w.heap.size (fun _ => True) v (splitZ l) ∧ Below w.heap.size w w')
    (w : World) : Calls Try.prog 45 #[] w fun e w' => e = .returned (.bool true) ∧ Below w.heap.size w w' := by
  have HO := Aside0.mk hO
  have HS := Aside0.mk hS
  clear hO hS
  have kc := fun (w : World) (C : Array Value) (n c : Nat) => Lib.run_convert_bytes_const (P := Try.prog) w 22 5 C n c Try.underlying22 Try.underlying5
  go_enter Try.func45, Try.ntmps45
  go_wp2_with (first | (go_at_call_has 46 w; go_must (refine (HO.out (some ⟨w.heap.size, 0, none⟩) 1 [97] 1 97 _ (C_cells w [97] 5 (1, 2) (by decide)) (by decide) (by intro x hx; simp at hx; omega) (by decide) of_a).mono ?_); rintro e w1 ⟨rfl, hb⟩; have HB1 := Aside0.mk (below_step (below_alloc (Below.refl _ _) _) hb); clear hb) | (go_at_call_has 46 w1; go_must (refine (HO.out (some ⟨w1.heap.size, 0, none⟩) 2 [97, 98] 8 0 _ (C_cells w1 [97, 98] 5 (2, 3) (by decide)) (by decide) (by intro x hx; simp at hx; omega) (by decide) of_ab).mono ?_); rintro e w2 ⟨rfl, hb⟩; have HB2 := Aside0.mk (below_step (below_alloc HB1.out _) hb); clear hb) | (go_at_call_has 43 w2; go_must (refine (HS.out (some ⟨w2.heap.size, 0, none⟩) 6 [97, 195, 169, 27, 91, 67] _ (C_cells w2 [97, 195, 169, 27, 91, 67] 5 (6, 7) (by decide)) (by decide) (by intro x hx; simp at hx; omega) (by decide)).mono ?_); rintro e w3 ⟨v, rfl, hR, hb⟩; obtain ⟨A3, c3, rfl⟩ := Kd.S_slice hR; rw [split_3]; have HB3 := Aside0.mk (below_step (below_alloc HB2.out _) hb); clear hR hb))
  all_goals go_ret
  all_goals exact ⟨rfl, HB3.out⟩
end Go.Proofs.Ytglcopljhanhmaa
