/- KeygramTells: what its proof leads to. No condition. -/
import Derived.Test.YtpephndecdkfhaaNumRqKeygramTells
namespace Go.Proofs.Ytpephndecdkfhaa
open Go.RowKit Go.Proofs.YtpephndecdkfhaaW.PrintWords Go.Proofs.YtpephndecdkfhaaW.PrintLast Go.Proofs.YtpephndecdkfhaaW.PrintMore
set_option linter.unusedVariables false
set_option linter.unusedSimpArgs false

theorem RdS.err {w0 w : World} {g : Nat} {s : RS} (h : RdS w0 w g s) : Calls Try.prog 35 #[.pointer (some ⟨g, 0, none⟩)] w fun r w' => r = .returned (.int .i64 s.e) ∧ w' = w := Err_at w0 w g s.l s.t s.e h.1

set_option maxHeartbeats 400000 in
theorem Fail_any (w0 w : World) (g : Nat) (s : RS) (e : Int) (h : RdS w0 w g s) :
    Calls Try.prog 33 #[.pointer (some ⟨g, 0, none⟩), .int .i64 e] w fun r w' => r = .returned (.tuple #[]) ∧ RdS w0 w' g (s.fail e) ∧ w.grownBy w' (some g) := by
  have HR := Aside0.mk h
  have HF := Aside0.mk (RS.fail_fine h.2 e)
  obtain ⟨⟨A, c, hb, h0, hc, hC⟩, hfine⟩ := h
  have c2 := blk_cell hb 2
  have f2 := blk_frozen hb 2
  simp at c2
  have HBL := Aside0.mk hb
  have HC := Aside0.mk hC
  clear hb hC
  by_cases he : s.e = 0
  · have HN := Aside0.mk (show s.fail e = ⟨s.l, s.t, e⟩ by unfold RS.fail; rw [if_pos he])
    have hd : (s.e == 0) = true := by simpa using he
    clear he hfine
    go_enter Try.func33, Try.ntmps33
    go_wp2
    go_end0
    rw [HN.out]
    refine ⟨rfl, ⟨⟨A, c, ?_, h0, hc, HC.out⟩, by have := HF.out; rw [HN.out] at this; exact this⟩, ?_⟩
    · have := blk_set HBL.out 2 (.int .i64 e)
      simp at this
      exact this
    · repeat (first | exact grown_refl _ _ | apply grown_set | apply grown_drewN | apply grown_drew | apply grown_alloc)
  · have HN := Aside0.mk (show s.fail e = s by unfold RS.fail; rw [if_neg he])
    have hd : (s.e == 0) = false := by simpa using he
    clear he hfine
    go_enter Try.func33, Try.ntmps33
    go_wp2
    go_end0
    rw [HN.out]
    exact ⟨rfl, HR.out, grown_refl _ _⟩

set_option maxHeartbeats 400000 in
theorem Done_any (w0 w : World) (g : Nat) (s : RS) (h : RdS w0 w g s) :
    Calls Try.prog 37 #[.pointer (some ⟨g, 0, none⟩)] w fun r w' => r = .returned (.int .i64 s.done) ∧ w' = w := by
  have HE := Aside0.mk h.err
  obtain ⟨⟨A, c, hb, h0, hc, hC⟩, hfine⟩ := h
  have c0 := blk_cell hb 0
  simp at c0
  clear hb hC
  by_cases he : s.e = 0
  · have hd : (s.e != 0) = false := by simpa using he
    by_cases hl : s.l.length = 0
    · have HN := Aside0.mk (show s.done = 0 by unfold RS.done; rw [if_pos he, if_pos hl])
      have h2 : decide (0 < s.l.length) = false := decide_eq_false (by omega)
      clear he hfine hl
      go_enter Try.func37, Try.ntmps37
      go_wp2_with (first | (go_at_call 35; refine HE.out.mono ?_; rintro r w' ⟨rfl, rfl⟩))
      go_ret
      exact ⟨ret_int HN.out.symm, rfl⟩
    · have HN := Aside0.mk (show s.done = 3 by unfold RS.done; rw [if_pos he, if_neg hl])
      have h2 : decide (0 < s.l.length) = true := decide_eq_true (by omega)
      clear he hfine hl
      go_enter Try.func37, Try.ntmps37
      go_wp2_with (first | (go_at_call 35; refine HE.out.mono ?_; rintro r w' ⟨rfl, rfl⟩))
      go_ret
      exact ⟨ret_int HN.out.symm, rfl⟩
  · have hd : (s.e != 0) = true := by simpa using he
    have HN := Aside0.mk (show s.done = s.e by unfold RS.done; rw [if_neg he])
    clear he hfine
    go_enter Try.func37, Try.ntmps37
    go_wp2_with (first | (go_at_call 35; refine HE.out.mono ?_; rintro r w' ⟨rfl, rfl⟩))
    go_ret
    exact ⟨ret_int HN.out.symm, rfl⟩

set_option maxHeartbeats 400000 in
theorem under_any (most : Int) (w : World) :
    Calls Try.prog 56 #[.int .i64 most] w fun r w' => r = .returned (.func (.func 64) #[] #[.pointer (some ⟨w.heap.size, 0, none⟩)]) ∧ w' = w.alloc (.cells #[.int .i64 most] 3) := by
  have hmf : ∀ (fn : Fn) (first cap : Array Value) (w : World), (Instr.makeFunc fn first cap).run Try.prog w = .ok (.func fn first cap) w := fun _ _ _ _ => rfl
  go_enter Try.func56, Try.ntmps56
  go_wp2
  go_ret
  exact ⟨rfl, rfl⟩

set_option maxHeartbeats 400000 in
theorem under1_any (most n : Int) (w : World) (b : Nat) (hb : w.cell? ⟨b, 0, none⟩ = some (.int .i64 most)) (hm0 : -9223372036854775808 ≤ most) (hm : most ≤ 9223372036854775807) (q : Bool) (hq : decide (0 ≤ most ∧ n ≤ most) = q) :
    Calls Try.prog 64 #[.int .u64 n, .pointer (some ⟨b, 0, none⟩)] w fun r w' => r = .returned (.bool q) ∧ w' = w := by
  by_cases h1 : 0 ≤ most
  · have k1 : decide (0 ≤ most) = true := by simpa using h1
    have k2 : decide (n ≤ most) = q := by rw [← hq]; simp [h1]
    have k3 : IntKind.u64.wrap most = most := by rw [IntKind.wrap_u64]; omega
    have HQ := Aside0.mk k2
    clear hq h1 k2
    go_enter Try.func64, Try.ntmps64
    go_wp2
    go_ret
    exact ⟨ret_bool HQ.out, rfl⟩
  · have k1 : decide (0 ≤ most) = false := by simpa using h1
    have HQ := Aside0.mk (show false = q by rw [← hq]; simp; omega)
    clear hq h1
    go_enter Try.func64, Try.ntmps64
    go_wp2
    go_ret
    exact ⟨ret_bool HQ.out, rfl⟩

theorem RS.up_e {s : RS} {most err : Int} (h : ¬ s.e = 0) : s.up most err = (s, 0) := by unfold RS.up; rw [if_neg h]
theorem RS.up_bad {s : RS} {most err : Int} (h : s.e = 0) (h2 : ¬ s.number.1.e = 0) : s.up most err = (s.number.1, 0) := by unfold RS.up; rw [if_pos h, if_neg h2]
theorem RS.up_no {s : RS} {most err : Int} (h : s.e = 0) (h2 : s.number.1.e = 0) (h3 : ¬ (0 ≤ most ∧ s.number.2 ≤ most)) : s.up most err = (⟨s.l, s.t, err⟩, 0) := by unfold RS.up; rw [if_pos h, if_pos h2, if_neg h3]
theorem RS.up_yes {s : RS} {most err : Int} (h : s.e = 0) (h2 : s.number.1.e = 0) (h3 : 0 ≤ most ∧ s.number.2 ≤ most) : s.up most err = s.number := by unfold RS.up; rw [if_pos h, if_pos h2, if_pos h3]
theorem RS.number_bad {s : RS} (h : s.e = 0) (h2 : ¬ s.number.1.e = 0) : s.number.2 = 0 := by
  unfold RS.number at *
  rw [if_pos h] at *
  split at h2
  · exact absurd rfl h2
  · rename_i h3; rw [if_neg h3]

theorem cell_grown {w w1 : World} {row : Option Nat} (h : w.grownBy w1 row) {a : Addr} {v : Value} (hc : w.cell? a = some v) (hne : some a.block ≠ row) : w1.cell? a = some v := h.cell hc hne

set_option maxRecDepth 100000 in
set_option maxHeartbeats 1000000 in
theorem bounded_any (w0 w : World) (g b : Nat) (s : RS) (most err : Int) (hB : Below w0.heap.size w0 w) (h : RdS w0 w g s) (hb : w.cell? ⟨b, 0, none⟩ = some (.int .i64 most)) (hne : b ≠ g) (hm0 : -9223372036854775808 ≤ most) (hm : most ≤ 9223372036854775807) :
    Calls Try.prog 55 #[.pointer (some ⟨g, 0, none⟩), .func (.func 64) #[] #[.pointer (some ⟨b, 0, none⟩)], .int .i64 err] w fun r w' => r = .returned (.int .i64 (s.up most err).2) ∧ RdS w0 w' g (s.up most err).1 ∧ w.grownBy w' (some g) := by
  have HR := Aside0.mk h
  have HB := Aside0.mk hB
  have HF := Aside0.mk (RS.up_fine h.2 most err)
  have hrange := RS.number_range h.2
  have hge := h.ge
  have hlt := h.lt
  obtain ⟨⟨A, c, hbl, h0, hc, hC⟩, hfine⟩ := h
  have c0 := blk_cell hbl 0
  have c1 := blk_cell hbl 1
  have c2 := blk_cell hbl 2
  simp at c0 c1 c2
  have HBL := Aside0.mk hbl
  have HC := Aside0.mk hC
  have HBM := Aside0.mk hb
  have hblt := World.block_lt_of_cell? w _ hb
  clear hbl hC hB hb
  by_cases he : s.e = 0
  · have hd : (s.e != 0) = false := by simpa using he
    have HW1 := Aside0.mk (HR.out.below (below_alloc (Below.refl _ _) (.cells #[.slice A s.l.length c, .int .i64 s.t] 94)))
    have HN := Aside0.mk (Number_any w0 (w.alloc (.cells #[.slice A s.l.length c, .int .i64 s.t] 94)) g s (below_alloc HB.out _) HW1.out)
    obtain ⟨s1, n, hn⟩ : ∃ s1 n, s.number = (s1, n) := ⟨_, _, rfl⟩
    have HNN := Aside0.mk hn
    have HNB := Aside0.mk (RS.number_bad he)
    have HY := Aside0.mk (fun h2 h3 => RS.up_yes (most := most) (err := err) he h2 h3)
    have HO := Aside0.mk (fun h2 h3 => RS.up_no (most := most) (err := err) he h2 h3)
    have HD := Aside0.mk (fun h2 => RS.up_bad (most := most) (err := err) he h2)
    rw [hn] at HN HNB HY HO HD hrange
    simp only at HN HNB HY HO HD hrange
    have hn0 := hrange.1
    have HH := Aside0.mk (And.intro he hrange)
    have hwg : w.heap.size ≠ g := by omega
    clear he hrange hfine hn
    by_cases he1 : s1.e = 0
    · have hd1 : (s1.e == 0) = true := by simpa using he1
      by_cases hok : 0 ≤ most ∧ n ≤ most
      · have HQ := Aside0.mk (decide_eq_true hok)
        have hn1 : n ≤ 9223372036854775807 := by omega
        have HE := Aside0.mk (HY.out he1 hok)
        clear he1 hok
        go_enter Try.func55, Try.ntmps55
        go_wp2_with (first | (go_at_call 27; refine HN.out.mono ?_; rintro r w1 ⟨rfl, hR1, hg1⟩; have HRN := Aside0.mk hR1; have HG := Aside0.mk (grown_trans (World.grownBy_alloc w _ (some g)) hg1 (fun _ h => .inl h)); obtain ⟨⟨A1, c1', hbl1, -, hc1', -⟩, -⟩ := hR1; have d0 := blk_cell hbl1 0; have d1 := blk_cell hbl1 1; have d2 := blk_cell hbl1 2; have e0 := blk_frozen hbl1 0; have e1 := blk_frozen hbl1 1; have e2 := blk_frozen hbl1 2; simp at d0 d1 d2; have HBN := Aside0.mk hbl1; have a0 : w1.cell? ⟨w.heap.size, 0, none⟩ = some (.slice A s.l.length c) := cell_grown hg1 (by simp) (by simpa using hwg); have a1 : w1.cell? ⟨w.heap.size, 1, none⟩ = some (.int .i64 s.t) := cell_grown hg1 (by simp) (by simpa using hwg); have ab : w1.cell? ⟨b, 0, none⟩ = some (.int .i64 most) := cell_grown hg1 (pw_cell_below (below_alloc (Below.refl _ _) _) HBM.out) (by simpa using hne); have HAB := Aside0.mk ab; clear ab hg1 hbl1 c0 c1 c2) | (go_at_call 64; refine (under1_any most n _ b HAB.out hm0 hm true HQ.out).mono ?_; rintro r w2 ⟨rfl, rfl⟩))
        go_ret
        rw [HE.out]
        exact ⟨rfl, HRN.out, HG.out⟩
      · have HQ := Aside0.mk (decide_eq_false hok)
        have HE := Aside0.mk (HO.out he1 hok)
        clear he1 hok
        go_enter Try.func55, Try.ntmps55
        go_wp2_with (first | (go_at_call 27; refine HN.out.mono ?_; rintro r w1 ⟨rfl, hR1, hg1⟩; have HRN := Aside0.mk hR1; have HG := Aside0.mk (grown_trans (World.grownBy_alloc w _ (some g)) hg1 (fun _ h => .inl h)); obtain ⟨⟨A1, c1', hbl1, -, hc1', -⟩, -⟩ := hR1; have d0 := blk_cell hbl1 0; have d1 := blk_cell hbl1 1; have d2 := blk_cell hbl1 2; have e0 := blk_frozen hbl1 0; have e1 := blk_frozen hbl1 1; have e2 := blk_frozen hbl1 2; simp at d0 d1 d2; have HBN := Aside0.mk hbl1; have a0 : w1.cell? ⟨w.heap.size, 0, none⟩ = some (.slice A s.l.length c) := cell_grown hg1 (by simp) (by simpa using hwg); have a1 : w1.cell? ⟨w.heap.size, 1, none⟩ = some (.int .i64 s.t) := cell_grown hg1 (by simp) (by simpa using hwg); have ab : w1.cell? ⟨b, 0, none⟩ = some (.int .i64 most) := cell_grown hg1 (pw_cell_below (below_alloc (Below.refl _ _) _) HBM.out) (by simpa using hne); have HAB := Aside0.mk ab; clear ab hg1 hbl1 c0 c1 c2) | (go_at_call 64; refine (under1_any most n _ b HAB.out hm0 hm false HQ.out).mono ?_; rintro r w2 ⟨rfl, rfl⟩))
        go_ret
        rw [HE.out]
        refine ⟨rfl, ⟨⟨A, c, ?_, h0, hc, HC.out⟩, by have := HF.out; rw [HE.out] at this; exact this⟩, ?_⟩
        · have := blk_set (blk_set (blk_set HBN.out 0 (.slice A s.l.length c)) 1 (.int .i64 s.t)) 2 (.int .i64 err)
          simp at this
          exact this
        · repeat (first | exact HG.out | apply grown_set | apply grown_drewN | apply grown_drew | apply grown_alloc)
    · have hd1 : (s1.e == 0) = false := by simpa using he1
      have HE := Aside0.mk (HD.out he1)
      have HZ := Aside0.mk (HNB.out he1)
      have hn1 : n ≤ 9223372036854775807 := by have := HZ.out; omega
      clear he1
      go_enter Try.func55, Try.ntmps55
      go_wp2_with (first | (go_at_call 27; refine HN.out.mono ?_; rintro r w1 ⟨rfl, hR1, hg1⟩; have HRN := Aside0.mk hR1; have HG := Aside0.mk (grown_trans (World.grownBy_alloc w _ (some g)) hg1 (fun _ h => .inl h)); obtain ⟨⟨A1, c1', hbl1, -, hc1', -⟩, -⟩ := hR1; have d0 := blk_cell hbl1 0; have d1 := blk_cell hbl1 1; have d2 := blk_cell hbl1 2; have e0 := blk_frozen hbl1 0; have e1 := blk_frozen hbl1 1; have e2 := blk_frozen hbl1 2; simp at d0 d1 d2; have HBN := Aside0.mk hbl1; have a0 : w1.cell? ⟨w.heap.size, 0, none⟩ = some (.slice A s.l.length c) := cell_grown hg1 (by simp) (by simpa using hwg); have a1 : w1.cell? ⟨w.heap.size, 1, none⟩ = some (.int .i64 s.t) := cell_grown hg1 (by simp) (by simpa using hwg); have ab : w1.cell? ⟨b, 0, none⟩ = some (.int .i64 most) := cell_grown hg1 (pw_cell_below (below_alloc (Below.refl _ _) _) HBM.out) (by simpa using hne); have HAB := Aside0.mk ab; clear ab hg1 hbl1 c0 c1 c2))
      go_ret
      rw [HE.out]
      exact ⟨ret_int HZ.out, HRN.out, HG.out⟩
  · have HN := Aside0.mk (RS.up_e (most := most) (err := err) he)
    have hd : (s.e != 0) = true := by simpa using he
    clear he hfine hrange
    go_enter Try.func55, Try.ntmps55
    go_wp2
    go_ret
    rw [HN.out]
    exact ⟨rfl, HR.out, grown_refl _ _⟩
end Go.Proofs.Ytpephndecdkfhaa
