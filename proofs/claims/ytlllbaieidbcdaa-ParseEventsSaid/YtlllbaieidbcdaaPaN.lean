/- The document's parser: its parts. -/
import Derived.Test.YtlllbaieidbcdaaPaL
namespace Go.Proofs.Ytlllbaieidbcdaa.Str
open Go.RowKit Go.Proofs.Ytlllbaieidbcdaa Go.Proofs.Ytlllbaieidbcdaa.PParseEvents Go.Proofs.YtlllbaieidbcdaaW.PrintWords Go.Proofs.YtlllbaieidbcdaaW.PrintLast Go.Proofs.YtlllbaieidbcdaaW.PrintMore
set_option linter.unusedVariables false
set_option linter.unusedSimpArgs false
/-- What is read. -/
def RD {α : Type} (d : Kd α) (W : World) (ok : Nat → Prop) (v : Value) (l : List α) : Prop := ∃ A c, v = .slice A l.length c ∧ l.length ≤ c ∧ Kd.F d W ok A l.length l
section
variable {α : Type} {d : Kd α} {W W1 : World} {ok ok' : Nat → Prop} {v : Value} {l : List α}
theorem RD.below (h : RD d W ok v l) (hb : Below W.heap.size W W1) : RD d W1 ok v l := by
  obtain ⟨A, c, rfl, hc, hF⟩ := h
  exact ⟨A, c, rfl, hc, Kd.F_below hF hb⟩
theorem RD.mono (h : RD d W ok v l) (hk : ∀ k, ok k → ok' k) : RD d W ok' v l := by
  obtain ⟨A, c, rfl, hc, hF⟩ := h
  exact ⟨A, c, rfl, hc, Kd.F_mono hF hk⟩
theorem RD.far (h : RD d W ok v l) {p : Addr} (hk : ∀ k, ok k → k ≠ p.block) (u : Value) : RD d (W.setCell p u) ok v l := by
  obtain ⟨A, c, rfl, hc, hF⟩ := h
  exact ⟨A, c, rfl, hc, Kd.F_far hF hk u⟩
theorem RD.nil (d : Kd α) (W : World) (ok : Nat → Prop) : RD d W ok (.slice none 0 0) [] := ⟨none, 0, rfl, Nat.le_refl _, Kd.F_nil _ _ _⟩
theorem RD.ofR {e base : Nat} (h : d.R e W base ok v l) : RD d W (fun k => base ≤ k) v l := by
  obtain ⟨A, c, rfl, hc, -⟩ := Kd.R_reads h
  exact ⟨A, c, rfl, hc, Kd.F_mono (Kd.R_F (Kd.R_bound h)) (fun k hk => hk.2.1)⟩
theorem RD.ofN {e base : Nat} (h : Kd.N d e W base ok v l) : RD d W ok v l := by
  obtain ⟨A, c, rfl, hc, -⟩ := Kd.N_reads h
  exact ⟨A, c, rfl, hc, Kd.N_F h⟩
theorem RD.bound (h : RD d W ok v l) : RD d W (fun k => ok k ∧ k < W.heap.size) v l := by
  obtain ⟨A, c, rfl, hc, hF⟩ := h
  exact ⟨A, c, rfl, hc, Kd.F_bound hF⟩
end
set_option maxRecDepth 100000 in
set_option maxHeartbeats 4000000 in
theorem first_any (A : Option Addr) (c : Nat) (n : List Int) (W : World) (hc : n.length ≤ c) :
    Calls Try.prog 34 #[.slice A n.length c] W fun e w' => e = .returned (.slice A (n.take 8).length c) ∧ w' = W := by
  by_cases h : (8 : Int) < (n.length : Int)
  · obtain ⟨hcut, -, -⟩ := cut_take (P := Try.prog) (Kd.int .i64) 26 3 .i64 Try.underlying26 info3p A c n (8 : Int) (by omega) (by omega) hc
    rw [show (8 : Int).toNat = 8 from rfl] at hcut
    have hT : decide ((n.length : Int) > 8) = true := decide_eq_true h
    obtain ⟨T, hTe⟩ : ∃ T, n.take 8 = T := ⟨_, rfl⟩
    rw [hTe] at hcut ⊢
    clear h hTe
    go_enter Try.func34, Try.ntmps34
    go_wp2
    all_goals go_ret
    all_goals exact ⟨rfl, rfl⟩
  · have hT : decide ((n.length : Int) > 8) = false := decide_eq_false h
    rw [List.take_of_length_le (by omega)]
    clear h
    go_enter Try.func34, Try.ntmps34
    go_wp2
    all_goals go_ret
    all_goals exact ⟨rfl, rfl⟩
set_option maxRecDepth 100000 in
set_option maxHeartbeats 4000000 in
theorem digits_any (A : Option Addr) (c : Nat) (n : List Int) (x : Int) (W : World) (hC : Kd.C (Kd.int .i64) W A n.length n) (hc : n.length ≤ c) (hn : n.length ≤ 1000000) (hnb : ∀ x ∈ n, -1 ≤ x ∧ x ≤ 9999) (h0 : 0 ≤ x) (h9 : x ≤ 9) :
    Calls Try.prog 33 #[.slice A n.length c, .int .i64 x] W fun e w' => ∃ v, e = .returned v ∧ Kd.R (Kd.int .i64) 3 w' W.heap.size (fun _ => True) v (digV n x) ∧ Below W.heap.size W w' := by
  by_cases hne : n = []
  · subst hne
    rw [show digV [] x = [x] from rfl]
    clear hC hn hnb
    go_enter Try.func33, Try.ntmps33
    go_wp2
    all_goals go_ret
    all_goals exact ⟨_, rfl, R_lit_at .i64 (W := W) W.heap.size 3 _ [x] (by simp) (by simp) (by simp), (by repeat (first | exact Below.refl _ _ | apply below_alloc | apply pw_below_drewN | apply below_drew1 | (refine Below.setCell ?_ (by simp) _)))⟩
  · obtain ⟨m, hm⟩ : ∃ m, n.length = m + 1 := ⟨n.length - 1, by have := List.length_pos_iff.2 hne; omega⟩
    obtain ⟨hcut, hread, hlen⟩ := cut_take (P := Try.prog) (Kd.int .i64) 26 3 .i64 Try.underlying26 info3p A c n (m : Int) (by omega) (by omega) hc
    simp only [Int.toNat_natCast] at hcut hread hlen
    obtain ⟨ad, rfl, hcell⟩ := Kd.at_int hC (m : Int) (by omega) (by omega)
    rw [Int.toNat_natCast] at hcell
    have hyb := hnb _ (rd_in (show m < n.length by omega))
    have hT0 : ((n.length : Int) == 0) = false := by rw [beq_eq_false_iff_ne]; omega
    have hw1 : wrap64 ((n.length : Int) - 1) = (m : Int) := by rw [w64 (by omega) (by omega)]; omega
    have hw2 : IntKind.i64.wrap ((n.length : Int) - 1) = (m : Int) := by rw [i64_w]; exact hw1
    have hmn : (m : Int) < (n.length : Int) := by omega
    have hdr : n.dropLast = n.take m := by rw [List.dropLast_eq_take]; congr 1; omega
    have hg := getLastD_rd hm
    obtain ⟨y, hy⟩ : ∃ y, rd n (m : Int) = y := ⟨_, rfl⟩
    obtain ⟨z, hz⟩ : ∃ z, min (10 * max y 0 + x) 9999 = z := ⟨_, rfl⟩
    rw [hy] at hcell hyb hg
    have HV := Aside0.mk (show digV n x = n.take m ++ [z] by unfold digV; rw [if_neg hne, hg, hz, hdr])
    have hCT := hread W hC
    obtain ⟨T, hT⟩ : ∃ T, n.take m = T := ⟨_, rfl⟩
    rw [hT] at hcut hlen hCT HV
    rw [HV.out]
    have HC := Aside0.mk (And.intro hCT (show T.length ≤ 1000000 by rw [← hT, List.length_take]; omega))
    have HZ := Aside0.mk hz
    clear hC hread hn hnb hne hm hdr hg hy hT hlen hCT HV hz
    by_cases hy0 : y < 0
    · have hTy : decide (y < 0) = true := decide_eq_true hy0
      obtain rfl : x = z := by rw [← HZ.out]; omega
      have hTz : decide (x > 9999) = false := decide_eq_false (by omega)
      go_enter Try.func33, Try.ntmps33
      go_wp2_with (first | (((with_reducible refine gate_builtin (b := .append) (xs := #[.tmp 27, .tmp 30]) rfl ?_); at_builtin; (first | (refine unguard (by rfl) ?_; dsimp only) | skip); refine Kd.R_append_rows (Kd.int .i64) (w0 := W) W.heap.size rfl (.tmp 27) (.tmp 30) 26 3 (.int .i64 0) 8 rfl Try.underlying26 info3 rfl (by decide) (by omega) _ ([] : List Int) T _ _ _ (fun _ => True) (fun _ => False) rfl rfl ?aO ?aR (fun _ _ h => h) (fun _ h => h.elim) (fun _ _ => trivial) ?aB ?aS ?aL ?_; (case aO => exact (R_lit_int .i64 (W := W) W.heap.size 3 [] (Nat.le_refl _) (by simp))); (case aR => exact (Kd.C_below HC.out.1 (below_alloc (Below.refl _ _) _))); (case aB => exact (below_alloc (Below.refl _ _) _)); (case aS => exact (Below.size (below_alloc (Below.refl _ _) _))); (case aL => (have := HC.out.2; simp; omega)); intro vP1 wP1 ho hb hg hat; (try simp only [List.nil_append] at ho); have P1 := Aside0.mk (And.intro ho hb); clear ho hb hg hat); obtain ⟨A1, c1, rfl⟩ := Kd.R_slice P1.out.1) | (((with_reducible refine gate_builtin (b := .append) (xs := #[.tmp 31, .tmp 33]) rfl ?_); at_builtin; (first | (refine unguard (by rfl) ?_; dsimp only) | skip); refine Kd.R_append_rows (Kd.int .i64) (w0 := W) W.heap.size rfl (.tmp 31) (.tmp 33) 26 3 (.int .i64 0) 8 rfl Try.underlying26 info3 rfl (by decide) (by omega) _ T [x] _ _ _ (fun _ => True) (fun _ => False) rfl rfl ?aO ?aR (fun _ _ h => h) (fun _ h => h.elim) (fun _ _ => trivial) ?aB ?aS ?aL ?_; (case aO => exact (Kd.R_alloc P1.out.1 _)); (case aR => exact (Kd.R_reads' (R_lit_at .i64 (W := wP1) 0 3 _ [x] (by simp) (by simp) (by simp))).2.2); (case aB => exact (below_alloc P1.out.2 _)); (case aS => exact (Below.size (below_alloc P1.out.2 _))); (case aL => (have := HC.out.2; simp; omega)); intro vP2 wP2 ho hb hg hat; (try simp only [List.nil_append] at ho); have P2 := Aside0.mk (And.intro ho hb); clear ho hb hg hat)))
      all_goals go_ret
      all_goals exact ⟨_, rfl, P2.out.1, P2.out.2⟩
    have hTy : decide (y < 0) = false := decide_eq_false hy0
    by_cases hz0 : 10 * y + x > 9999
    · have hTz : decide (10 * y + x > 9999) = true := decide_eq_true hz0
      obtain rfl : 9999 = z := by rw [← HZ.out]; omega
      go_enter Try.func33, Try.ntmps33
      go_wp2_with (first | (((with_reducible refine gate_builtin (b := .append) (xs := #[.tmp 27, .tmp 30]) rfl ?_); at_builtin; (first | (refine unguard (by rfl) ?_; dsimp only) | skip); refine Kd.R_append_rows (Kd.int .i64) (w0 := W) W.heap.size rfl (.tmp 27) (.tmp 30) 26 3 (.int .i64 0) 8 rfl Try.underlying26 info3 rfl (by decide) (by omega) _ ([] : List Int) T _ _ _ (fun _ => True) (fun _ => False) rfl rfl ?aO ?aR (fun _ _ h => h) (fun _ h => h.elim) (fun _ _ => trivial) ?aB ?aS ?aL ?_; (case aO => exact (R_lit_int .i64 (W := W) W.heap.size 3 [] (Nat.le_refl _) (by simp))); (case aR => exact (Kd.C_below HC.out.1 (below_alloc (Below.refl _ _) _))); (case aB => exact (below_alloc (Below.refl _ _) _)); (case aS => exact (Below.size (below_alloc (Below.refl _ _) _))); (case aL => (have := HC.out.2; simp; omega)); intro vP1 wP1 ho hb hg hat; (try simp only [List.nil_append] at ho); have P1 := Aside0.mk (And.intro ho hb); clear ho hb hg hat); obtain ⟨A1, c1, rfl⟩ := Kd.R_slice P1.out.1) | (((with_reducible refine gate_builtin (b := .append) (xs := #[.tmp 31, .tmp 33]) rfl ?_); at_builtin; (first | (refine unguard (by rfl) ?_; dsimp only) | skip); refine Kd.R_append_rows (Kd.int .i64) (w0 := W) W.heap.size rfl (.tmp 31) (.tmp 33) 26 3 (.int .i64 0) 8 rfl Try.underlying26 info3 rfl (by decide) (by omega) _ T [9999] _ _ _ (fun _ => True) (fun _ => False) rfl rfl ?aO ?aR (fun _ _ h => h) (fun _ h => h.elim) (fun _ _ => trivial) ?aB ?aS ?aL ?_; (case aO => exact (Kd.R_alloc P1.out.1 _)); (case aR => exact (Kd.R_reads' (R_lit_at .i64 (W := wP1) 0 3 _ [9999] (by simp) (by simp) (by simp))).2.2); (case aB => exact (below_alloc P1.out.2 _)); (case aS => exact (Below.size (below_alloc P1.out.2 _))); (case aL => (have := HC.out.2; simp; omega)); intro vP2 wP2 ho hb hg hat; (try simp only [List.nil_append] at ho); have P2 := Aside0.mk (And.intro ho hb); clear ho hb hg hat)))
      all_goals go_ret
      all_goals exact ⟨_, rfl, P2.out.1, P2.out.2⟩
    · have hTz : decide (10 * y + x > 9999) = false := decide_eq_false hz0
      obtain rfl : 10 * y + x = z := by rw [← HZ.out]; omega
      go_enter Try.func33, Try.ntmps33
      go_wp2_with (first | (((with_reducible refine gate_builtin (b := .append) (xs := #[.tmp 27, .tmp 30]) rfl ?_); at_builtin; (first | (refine unguard (by rfl) ?_; dsimp only) | skip); refine Kd.R_append_rows (Kd.int .i64) (w0 := W) W.heap.size rfl (.tmp 27) (.tmp 30) 26 3 (.int .i64 0) 8 rfl Try.underlying26 info3 rfl (by decide) (by omega) _ ([] : List Int) T _ _ _ (fun _ => True) (fun _ => False) rfl rfl ?aO ?aR (fun _ _ h => h) (fun _ h => h.elim) (fun _ _ => trivial) ?aB ?aS ?aL ?_; (case aO => exact (R_lit_int .i64 (W := W) W.heap.size 3 [] (Nat.le_refl _) (by simp))); (case aR => exact (Kd.C_below HC.out.1 (below_alloc (Below.refl _ _) _))); (case aB => exact (below_alloc (Below.refl _ _) _)); (case aS => exact (Below.size (below_alloc (Below.refl _ _) _))); (case aL => (have := HC.out.2; simp; omega)); intro vP1 wP1 ho hb hg hat; (try simp only [List.nil_append] at ho); have P1 := Aside0.mk (And.intro ho hb); clear ho hb hg hat); obtain ⟨A1, c1, rfl⟩ := Kd.R_slice P1.out.1) | (((with_reducible refine gate_builtin (b := .append) (xs := #[.tmp 31, .tmp 33]) rfl ?_); at_builtin; (first | (refine unguard (by rfl) ?_; dsimp only) | skip); refine Kd.R_append_rows (Kd.int .i64) (w0 := W) W.heap.size rfl (.tmp 31) (.tmp 33) 26 3 (.int .i64 0) 8 rfl Try.underlying26 info3 rfl (by decide) (by omega) _ T [10 * y + x] _ _ _ (fun _ => True) (fun _ => False) rfl rfl ?aO ?aR (fun _ _ h => h) (fun _ h => h.elim) (fun _ _ => trivial) ?aB ?aS ?aL ?_; (case aO => exact (Kd.R_alloc P1.out.1 _)); (case aR => exact (Kd.R_reads' (R_lit_at .i64 (W := wP1) 0 3 _ [10 * y + x] (by simp) (by simp) (by simp))).2.2); (case aB => exact (below_alloc P1.out.2 _)); (case aS => exact (Below.size (below_alloc P1.out.2 _))); (case aL => (have := HC.out.2; simp; omega)); intro vP2 wP2 ho hb hg hat; (try simp only [List.nil_append] at ho); have P2 := Aside0.mk (And.intro ho hb); clear ho hb hg hat)))
      all_goals go_ret
      all_goals exact ⟨_, rfl, P2.out.1, P2.out.2⟩
end Go.Proofs.Ytlllbaieidbcdaa.Str
