/- KeygramTells: what its proof leads to. No condition. -/
import Derived.Test.YtpephndecdkfhaaNumBqKeygramTells
import Derived.Test.YtpephndecdkfhaaCutsqKeygramTells
import Derived.BigRegion
namespace Go.Proofs.Ytpephndecdkfhaa
open Go.RowKit Go.Proofs.YtpephndecdkfhaaW.PrintWords Go.Proofs.YtpephndecdkfhaaW.PrintLast Go.Proofs.YtpephndecdkfhaaW.PrintMore
set_option linter.unusedVariables false
set_option linter.unusedSimpArgs false

theorem C_below0 {α : Type} {d : Kd α} {w0 w : World} {A : Option Addr} {n : Nat} {xs : List α} (h : d.C w0 A n xs) (hB : Below w0.heap.size w0 w) : d.C w A n xs := Kd.C_below h hB
set_option maxHeartbeats 400000 in
theorem New_any (A : Option Addr) (c : Nat) (l : List Int) (w0 w : World) (hB : Below w0.heap.size w0 w) (hC : Kd.C (Kd.int .u8) w0 A l.length l) (hc : l.length ≤ c) :
    Calls Try.prog 25 #[.slice A l.length c] w fun r w' => ∃ g, r = .returned (.pointer (some ⟨g, 0, none⟩)) ∧ Rd w0 w' g l 0 0 ∧ Below w.heap.size w w' ∧ w.heap.size ≤ g := by
  have hu1 := Try.underlying94
  have hu2 := Try.underlying96
  have HC := Aside0.mk hC
  have HB := Aside0.mk hB
  clear hC hB
  go_enter Try.func25, Try.ntmps25
  go_wp2
  go_ret
  exact ⟨_, rfl, ⟨A, c, by simpa using heap_alloc_new w _, HB.out.size, hc, HC.out⟩, below_alloc (Below.refl _ _) _, Nat.le_refl _⟩

set_option maxHeartbeats 400000 in
theorem drop_any (w0 w : World) (g : Nat) (l : List Int) (t e n : Int) (h : Rd w0 w g l t e) (hn0 : 0 ≤ n) (hn1 : n ≤ l.length) (ht0 : 0 ≤ t) (ht1 : t + l.length ≤ 4611686018427387904) :
    Calls Try.prog 54 #[.pointer (some ⟨g, 0, none⟩), .int .i64 n] w fun r w' => ∃ A c, r = .returned (.slice A n.toNat c) ∧ (l.take n.toNat).length ≤ c ∧ Kd.C (Kd.int .u8) w0 A (l.take n.toNat).length (l.take n.toNat) ∧ Rd w0 w' g (l.drop n.toNat) (t + n) e ∧ w.grownBy w' (some g) := by
  obtain ⟨A, c, hb, h0, hc, hC⟩ := h
  obtain ⟨A', hcut, hread, hlen⟩ := cut_drop (P := Try.prog) (Kd.int .u8) 27 5 .i64 Try.underlying27 info5 A c l n hn0 hn1 hc
  obtain ⟨hcut2, hread2, hlen2⟩ := cut_take (P := Try.prog) (Kd.int .u8) 27 5 .i64 Try.underlying27 info5 A c l n hn0 hn1 hc
  have c0 := blk_cell hb 0
  have c1 := blk_cell hb 1
  have f0 := blk_frozen hb 0
  have f1 := blk_frozen hb 1
  simp at c0 c1
  have HBL := Aside0.mk hb
  have HC := Aside0.mk (And.intro (hread w0 hC) (hread2 w0 hC))
  clear hb hread hread2 hC
  go_enter Try.func54, Try.ntmps54
  go_wp2
  go_region
  all_goals go_wp2
  all_goals go_ret
  have e1 : (l.take n.toNat).length = n.toNat := by rw [List.length_take]; omega
  have e2 : (l.drop n.toNat).length = l.length - n.toNat := List.length_drop
  refine ⟨A, c, rfl, hlen2, HC.out.2, ⟨A', c - n.toNat, ?_, h0, hlen, ?_⟩, ?_⟩
  · have := blk_set (blk_set HBL.out 0 (.slice A' (l.length - n.toNat) (c - n.toNat))) 1 (.int .i64 (t + n))
    simp at this
    rw [e2]
    exact this
  · exact HC.out.1
  · repeat (first | exact grown_refl _ _ | apply grown_set | apply grown_drewN | apply grown_drew | apply grown_alloc)

/-- A reader at block g stands as s says. -/
def RdS (w0 W : World) (g : Nat) (s : RS) : Prop := Rd w0 W g s.l s.t s.e ∧ s.fine
theorem Rd.grown {w0 W W1 : World} {g : Nat} {l : List Int} {t e : Int} {row : Option Nat} (h : Rd w0 W g l t e) (hg : W.grownBy W1 row) (hne : some g ≠ row) : Rd w0 W1 g l t e := by
  obtain ⟨A, c, hb, h0, hc, hC⟩ := h
  exact ⟨A, c, blk_grown hb hg hne, h0, hc, hC⟩
theorem RdS.grown {w0 W W1 : World} {g : Nat} {s : RS} {row : Option Nat} (h : RdS w0 W g s) (hg : W.grownBy W1 row) (hne : some g ≠ row) : RdS w0 W1 g s := ⟨h.1.grown hg hne, h.2⟩
theorem RdS.below {w0 W W1 : World} {g : Nat} {s : RS} (h : RdS w0 W g s) (hb : Below W.heap.size W W1) : RdS w0 W1 g s := h.grown (below_grown0 hb none) (by simp)
theorem RdS.ge {w0 W : World} {g : Nat} {s : RS} (h : RdS w0 W g s) : w0.heap.size ≤ g := by obtain ⟨⟨A, c, hb, h0, hc, hC⟩, _⟩ := h; exact h0
theorem RdS.lt {w0 W : World} {g : Nat} {s : RS} (h : RdS w0 W g s) : g < W.heap.size := by obtain ⟨⟨A, c, hb, h0, hc, hC⟩, _⟩ := h; exact blk_lt hb

set_option maxRecDepth 100000 in
set_option maxHeartbeats 1000000 in
theorem Number_any (w0 w : World) (g : Nat) (s : RS) (hB : Below w0.heap.size w0 w) (h : RdS w0 w g s) :
    Calls Try.prog 27 #[.pointer (some ⟨g, 0, none⟩)] w fun r w' => r = .returned (.int .u64 s.number.2) ∧ RdS w0 w' g s.number.1 ∧ w.grownBy w' (some g) := by
  have HF := Aside0.mk h.2
  have HR := Aside0.mk h
  obtain ⟨⟨A, c, hb, h0, hc, hC⟩, hfine⟩ := h
  have c0 := blk_cell hb 0
  have c1 := blk_cell hb 1
  have c2 := blk_cell hb 2
  have f2 := blk_frozen hb 2
  simp at c0 c1 c2
  have HBL := Aside0.mk hb
  have HC := Aside0.mk (And.intro (C_below0 hC hB) hC)
  clear hb hC
  by_cases he : s.e = 0
  · have hbd := rdNum_bounds s.l hfine.1
    by_cases hr : (rdNum 0 0 s.l).2.2 = 0
    · obtain ⟨m, k, e, hrd⟩ : ∃ m k e, rdNum 0 0 s.l = (m, k, e) := ⟨_, _, _, rfl⟩
      rw [hrd] at hr hbd
      simp only at hr hbd
      subst hr
      have HN := Aside0.mk (show s.number = (⟨s.l.drop k.toNat, s.t + k, 0⟩, m) by unfold RS.number; rw [if_pos he, hrd]; simp)
      have HRD := Aside0.mk (Read_of A c s.l w m k 0 HC.out.1 hfine.1 hrd)
      have hd : (s.e != 0) = false := by simpa using he
      have HD := Aside0.mk (drop_any w0 w g s.l s.t s.e k HR.out.1 hbd.2.2.1 hbd.2.2.2.1 hfine.2.1 hfine.2.2)
      have HE := Aside0.mk he
      clear he hfine hrd hbd
      go_enter Try.func27, Try.ntmps27
      go_wp2_with (first | (go_at_call 21; refine HRD.out.mono ?_; rintro r w' ⟨rfl, rfl⟩) | (go_at_call 54; refine HD.out.mono ?_; rintro r w' ⟨A2, c2, rfl, _, _, hrd, hg⟩; have HX := Aside0.mk (And.intro hrd hg); clear hrd hg))
      go_ret
      rw [HN.out]
      exact ⟨rfl, ⟨by have := HX.out.1; rw [HE.out] at this; exact this, by have := RS.number_fine HF.out; rw [HN.out] at this; exact this⟩, HX.out.2⟩
    · obtain ⟨m, k, e, hrd⟩ : ∃ m k e, rdNum 0 0 s.l = (m, k, e) := ⟨_, _, _, rfl⟩
      rw [hrd] at hr hbd
      simp only at hr hbd
      have HN := Aside0.mk (show s.number = (⟨s.l, s.t, e⟩, 0) by unfold RS.number; rw [if_pos he, hrd]; simp [hr])
      have HRD := Aside0.mk (Read_of A c s.l w m k e HC.out.1 hfine.1 hrd)
      have hd : (s.e != 0) = false := by simpa using he
      have hd2 : (e != 0) = true := by simpa using hr
      clear he hfine hrd hbd hr
      go_enter Try.func27, Try.ntmps27
      go_wp2_with (first | (go_at_call 21; refine HRD.out.mono ?_; rintro r w' ⟨rfl, rfl⟩))
      go_ret
      rw [HN.out]
      refine ⟨rfl, ⟨⟨A, c, ?_, h0, hc, HC.out.2⟩, by have := RS.number_fine HF.out; rw [HN.out] at this; exact this⟩, ?_⟩
      · have := blk_set HBL.out 2 (.int .i64 e)
        simp at this
        exact this
      · repeat (first | exact grown_refl _ _ | apply grown_set | apply grown_drewN | apply grown_drew | apply grown_alloc)
  · have HN := Aside0.mk (show s.number = (s, 0) by unfold RS.number; rw [if_neg he])
    have hd : (s.e != 0) = true := by simpa using he
    clear he hfine
    go_enter Try.func27, Try.ntmps27
    go_wp2
    go_ret
    rw [HN.out]
    exact ⟨rfl, HR.out, grown_refl _ _⟩
end Go.Proofs.Ytpephndecdkfhaa
