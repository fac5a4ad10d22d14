/- KeygramTells: what its proof leads to. No condition. -/
import Derived.Test.YtpephndecdkfhaaCloneqKeygramTells
namespace Go.Proofs.Ytpephndecdkfhaa
open Go.RowKit Go.Proofs.YtpephndecdkfhaaW.PrintWords Go.Proofs.YtpephndecdkfhaaW.PrintLast Go.Proofs.YtpephndecdkfhaaW.PrintMore
set_option linter.unusedVariables false
set_option linter.unusedSimpArgs false

theorem RdS.alloc {w0 w : World} {g : Nat} {s : RS} (h : RdS w0 w g s) (o : Obj) : RdS w0 (w.alloc o) g s := h.below (below_alloc (Below.refl _ _) o)

set_option maxRecDepth 100000 in
set_option maxHeartbeats 1000000 in
theorem Upto_any (w0 w : World) (g : Nat) (s : RS) (most : Int) (hB : Below w0.heap.size w0 w) (h : RdS w0 w g s) (hm0 : -9223372036854775808 ≤ most) (hm : most ≤ 9223372036854775807) :
    Calls Try.prog 29 #[.pointer (some ⟨g, 0, none⟩), .int .i64 most] w fun r w' => r = .returned (.int .i64 (s.up most 5).2) ∧ RdS w0 w' g (s.up most 5).1 ∧ w.grownBy w' (some g) := by
  have hlt := h.lt
  have HN := Aside0.mk (bounded_any w0 (w.alloc (.cells #[.int .i64 most] 3)) g w.heap.size s most 5 (below_alloc hB _) (h.alloc _) (by simp) (by omega) hm0 hm)
  clear hB h
  go_enter Try.func29, Try.ntmps29
  go_wp2_with (first | (go_at_call 56; refine (under_any most _).mono ?_; rintro r w1 ⟨rfl, rfl⟩) | (go_at_call 55; refine HN.out.mono ?_; rintro r w2 ⟨rfl, hR, hg⟩; have HX := Aside0.mk (And.intro hR (grown_trans (World.grownBy_alloc w _ (some g)) hg (fun _ h => .inl h))); clear hR hg))
  go_ret
  exact ⟨rfl, HX.out.1, HX.out.2⟩

set_option maxRecDepth 100000 in
set_option maxHeartbeats 1000000 in
theorem Some_any (w0 w : World) (g : Nat) (s : RS) (most : Int) (hB : Below w0.heap.size w0 w) (h : RdS w0 w g s) (hm0 : -9223372036854775808 ≤ most) (hm : most ≤ 9223372036854775807) :
    Calls Try.prog 30 #[.pointer (some ⟨g, 0, none⟩), .int .i64 most] w fun r w' => r = .returned (.int .i64 (s.up most 6).2) ∧ RdS w0 w' g (s.up most 6).1 ∧ w.grownBy w' (some g) := by
  have hlt := h.lt
  have HN := Aside0.mk (bounded_any w0 (w.alloc (.cells #[.int .i64 most] 3)) g w.heap.size s most 6 (below_alloc hB _) (h.alloc _) (by simp) (by omega) hm0 hm)
  clear hB h
  go_enter Try.func30, Try.ntmps30
  go_wp2_with (first | (go_at_call 56; refine (under_any most _).mono ?_; rintro r w1 ⟨rfl, rfl⟩) | (go_at_call 55; refine HN.out.mono ?_; rintro r w2 ⟨rfl, hR, hg⟩; have HX := Aside0.mk (And.intro hR (grown_trans (World.grownBy_alloc w _ (some g)) hg (fun _ h => .inl h))); clear hR hg))
  go_ret
  exact ⟨rfl, HX.out.1, HX.out.2⟩

set_option maxRecDepth 100000 in
set_option maxHeartbeats 1000000 in
theorem Take_any (w0 w : World) (g : Nat) (s : RS) (n : Int) (hB : Below w0.heap.size w0 w) (h : RdS w0 w g s) (hlen : s.l.length ≤ 140737488355328) :
    Calls Try.prog 32 #[.pointer (some ⟨g, 0, none⟩), .int .i64 n] w fun r w' => ∃ v, r = .returned v ∧ Kd.R (Kd.int .u8) 5 w' w.heap.size (fun _ => True) v (s.take n).2 ∧ RdS w0 w' g (s.take n).1 ∧ w.grownBy w' (some g) := by
  have HR := Aside0.mk h
  have HB := Aside0.mk hB
  have HF := Aside0.mk (RS.take_fine h.2 n)
  have hge := h.ge
  have hlt := h.lt
  obtain ⟨⟨A, c, hbl, h0, hc, hC⟩, hfine⟩ := h
  have c0 := blk_cell hbl 0
  have c2 := blk_cell hbl 2
  have f2 := blk_frozen hbl 2
  simp at c0 c2
  have HBL := Aside0.mk hbl
  have HC := Aside0.mk hC
  clear hbl hC hB
  by_cases he : s.e = 0
  · have hd : (s.e != 0) = false := by simpa using he
    by_cases hok : 0 ≤ n ∧ n ≤ s.l.length
    · have HD := Aside0.mk (drop_any w0 w g s.l s.t s.e n HR.out.1 hok.1 hok.2 hfine.2.1 hfine.2.2)
      have k1 : decide (n < 0) = false := decide_eq_false (by omega)
      have k2 : decide ((s.l.length : Int) < n) = false := decide_eq_false (by omega)
      have HT := Aside0.mk (show s.take n = (⟨s.l.drop n.toNat, s.t + n, 0⟩, s.l.take n.toNat) by unfold RS.take; rw [if_pos he, if_pos hok])
      have HE := Aside0.mk he
      have E1 := Aside0.mk (show (s.l.take n.toNat).length = n.toNat by rw [List.length_take]; omega)
      clear he hok hfine
      go_enter Try.func32, Try.ntmps32
      go_wp2_with (first | (go_at_call 54; refine HD.out.mono ?_; rintro r w1 ⟨A1, c1, rfl, -, hC1, hR1, hg1⟩; have HX := Aside0.mk (And.intro hR1 hg1); have HCL := Clone8_any A1 c1 (s.l.take n.toNat) w1 (C_below0 hC1 (below_grown_ge HB.out hg1 hge)) (by rw [List.length_take]; omega); rw [E1.out] at HCL; replace HCL := Aside0.mk HCL; clear hC1 hR1 hg1) | (go_at_call 57; refine HCL.out.mono ?_; rintro r w2 ⟨v, rfl, hRv, hb2⟩; have HY := Aside0.mk (And.intro hRv hb2); clear hRv hb2))
      go_ret
      rw [HT.out]
      have hsz : w.heap.size ≤ w1.heap.size := HX.out.2.size
      refine ⟨_, rfl, Kd.R_lower HY.out.1 hsz, RdS.below ⟨by have := HX.out.1; rw [HE.out] at this; exact this, by have := HF.out; rw [HT.out] at this; exact this⟩ HY.out.2, grown_trans HX.out.2 (below_grown0 HY.out.2 none) (by simp)⟩
    · have HT := Aside0.mk (show s.take n = (⟨s.l, s.t, 4⟩, []) by unfold RS.take; rw [if_pos he, if_neg hok])
      have fin : ∀ w', w' = w.setCell ⟨g, 2, none⟩ (.int .i64 4) → RdS w0 w' g (s.take n).1 ∧ w.grownBy w' (some g) := by
        rintro w' rfl
        refine ⟨⟨?_, HF.out⟩, grown_set (grown_refl _ _) _ _⟩
        rw [HT.out]
        refine ⟨A, c, ?_, h0, hc, HC.out⟩
        have := blk_set HBL.out 2 (.int .i64 4)
        simp at this
        exact this
      have HFI := Aside0.mk fin
      clear fin
      by_cases hn : n < 0
      · have k1 : decide (n < 0) = true := decide_eq_true hn
        clear he hok hfine hn
        go_enter Try.func32, Try.ntmps32
        go_wp2
        go_ret
        exact ⟨_, rfl, by rw [HT.out]; exact Kd.R_nil _ _ _ _ _, HFI.out _ rfl⟩
      · have k1 : decide (n < 0) = false := decide_eq_false hn
        have k2 : decide ((s.l.length : Int) < n) = true := decide_eq_true (by omega)
        clear he hok hfine hn
        go_enter Try.func32, Try.ntmps32
        go_wp2
        go_ret
        exact ⟨_, rfl, by rw [HT.out]; exact Kd.R_nil _ _ _ _ _, HFI.out _ rfl⟩
  · have HT := Aside0.mk (show s.take n = (s, []) by unfold RS.take; rw [if_neg he])
    have hd : (s.e != 0) = true := by simpa using he
    clear he hfine
    go_enter Try.func32, Try.ntmps32
    go_wp2
    go_ret
    rw [HT.out]
    exact ⟨_, rfl, Kd.R_nil _ _ _ _ _, HR.out, grown_refl _ _⟩

end Go.Proofs.Ytpephndecdkfhaa
