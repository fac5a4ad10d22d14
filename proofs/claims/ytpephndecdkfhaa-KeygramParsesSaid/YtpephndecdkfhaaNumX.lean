/- The reference's reader, third part; the reference's bytes. -/
import Derived.Test.YtpephndecdkfhaaNumW
namespace Go.Proofs.Ytpephndecdkfhaa
open Go.RowKit Go.Proofs.YtpephndecdkfhaaW.PrintWords Go.Proofs.YtpephndecdkfhaaW.PrintLast Go.Proofs.YtpephndecdkfhaaW.PrintMore
set_option linter.unusedVariables false
set_option linter.unusedSimpArgs false

set_option maxRecDepth 100000 in
set_option maxHeartbeats 1000000 in
theorem rTake_any (A : Option Addr) (c : Nat) (b : List Int) (t e n : Int) (w : World) (hC : Kd.C (Kd.int .u8) w A b.length b) (hc : b.length ≤ c) (ht0 : 0 ≤ t) (ht1 : t ≤ b.length) (hbl : b.length ≤ 140737488355328) :
    Calls Try.prog 31 #[.agg #[.slice A b.length c, .int .i64 t, .int .i64 e], .int .i64 n] w fun r w' => ∃ v, r = .returned (.tuple #[.agg #[.slice A b.length c, .int .i64 (RS.take ⟨b.drop t.toNat, t, e⟩ n).1.t, .int .i64 (RS.take ⟨b.drop t.toNat, t, e⟩ n).1.e], v]) ∧ Kd.R (Kd.int .u8) 5 w' w.heap.size (fun _ => True) v (RS.take ⟨b.drop t.toNat, t, e⟩ n).2 ∧ Below w.heap.size w w' := by
  have hu := Try.underlying45
  by_cases he : e = 0
  · have hd : (e == 0) = true := by simpa using he
    by_cases hok : 0 ≤ n ∧ n ≤ b.length - t
    · obtain ⟨A', hcut, hread, hlen⟩ := cut_both (P := Try.prog) (Kd.int .u8) 27 5 .i64 .i64 Try.underlying27 info5 A c b t (t + n) ht0 (by omega) (by omega) hc
      have HT := Aside0.mk (show RS.take ⟨b.drop t.toNat, t, e⟩ n = (⟨(b.drop t.toNat).drop n.toNat, t + n, 0⟩, (b.drop t.toNat).take n.toNat) by unfold RS.take; simp only [List.length_drop]; rw [if_pos he, if_pos (by omega)])
      have hmid : (b.take (t + n).toNat).drop t.toNat = (b.drop t.toNat).take n.toNat := by rw [List.drop_take]; congr 1; omega
      have hml : ((b.drop t.toNat).take n.toNat).length = n.toNat := by rw [List.length_take, List.length_drop]; omega
      rw [hmid, hml] at hcut
      rw [hmid] at hread hlen
      have HC := Aside0.mk (fun W hW => hread W (C_below0 hC hW))
      have HE := Aside0.mk (And.intro he hml)
      have k1 : decide (n < 0) = false := decide_eq_false (by omega)
      have k2 : decide ((b.length : Int) - t < n) = false := decide_eq_false (by omega)
      have hn0 : 0 ≤ n := hok.1
      have hn1 : n ≤ b.length - t := hok.2
      clear hread hmid hml he hok hC
      obtain ⟨W, hW⟩ : ∃ W, W = ((w.alloc (.cells #[.slice A b.length c, .int .i64 t, .int .i64 e] 45)).alloc (.cells #[.slice none 0 0, .int .i64 0, .int .i64 0] 45)) := ⟨_, rfl⟩
      have HW := Aside0.mk hW
      have hWs : W.heap.size = w.heap.size + 2 := by rw [hW]; simp
      have HWs := Aside0.mk hWs
      have a0 : W.cell? ⟨w.heap.size, 0, none⟩ = some (.slice A b.length c) := by rw [hW]; simp
      have a1 : W.cell? ⟨w.heap.size, 1, none⟩ = some (.int .i64 t) := by rw [hW]; simp
      have a2 : W.cell? ⟨w.heap.size, 2, none⟩ = some (.int .i64 e) := by rw [hW]; simp
      have a3 : W.cell? ⟨w.heap.size + 1, 0, none⟩ = some (.slice none 0 0) := by rw [hW]; simp
      have a4 : W.cell? ⟨w.heap.size + 1, 1, none⟩ = some (.int .i64 0) := by rw [hW]; simp
      have a5 : W.cell? ⟨w.heap.size + 1, 2, none⟩ = some (.int .i64 0) := by rw [hW]; simp
      have a6 : ∀ o, W.frozen? ⟨w.heap.size, o, none⟩ = false := by intro o; rw [hW]; simp
      have a7 : ∀ o, W.frozen? ⟨w.heap.size + 1, o, none⟩ = false := by intro o; rw [hW]; simp
      have HBW := Aside0.mk (show Below w.heap.size w W by rw [hW]; exact (by repeat (first | exact Below.refl _ _ | apply below_alloc | apply pw_below_drewN | apply below_drew1 | (refine Below.setCell ?_ (by simp) _))))
      have HA := Aside0.mk (And.intro a0 (And.intro a1 (And.intro a2 (And.intro a3 (And.intro a4 (And.intro a5 (And.intro a6 a7)))))))
      clear a0 a1 a2 a3 a4 a5 a6 a7 hWs hW
      go_enter Try.func31, Try.ntmps31
      go_wp2_with (first | ((with_reducible refine gate_builtin (b := .append) (xs := #[.tmp 29, .tmp 38]) rfl ?_); at_builtin; refine Kd.R_append_rows (Kd.int .u8) (w0 := W) W.heap.size rfl (.tmp 29) (.tmp 38) 27 5 (.int .u8 0) 1 rfl Try.underlying27 info5 rfl (by decide) (by omega) _ ([] : List Int) ((b.drop t.toNat).take n.toNat) _ _ _ (fun _ => True) (fun _ => False) rfl rfl ?aO ?aR (fun _ _ h => h) (fun _ h => h.elim) (fun _ _ => trivial) ?aB ?aS ?aL ?_; (case aO => exact R_lit_at .u8 _ _ _ [] (by simp) (by rw [HW.out]; simp) (by simp)); (case aR => exact cast_C HE.out.2 (HC.out _ (by repeat (first | exact Below.refl _ _ | apply below_alloc | apply pw_below_drewN | apply below_drew1 | (refine Below.setCell ?_ (by simp) _))))); (case aB => rw [HW.out]; exact (by repeat (first | exact Below.refl _ _ | apply below_alloc | apply pw_below_drewN | apply below_drew1 | (refine Below.setCell ?_ (by simp) _)))); (case aS => rw [HWs.out]; simp); (case aL => first | (simp; done) | (simp; omega)); intro vq wq ho hb hg hat; simp only [List.nil_append] at ho; obtain ⟨hcell, hfroz⟩ := below_cells hb; obtain ⟨a0, a1, a2, a3, a4, a5, a6, a7⟩ := HA.out; rw [← hcell _ _ (by rw [HWs.out]; omega)] at a0 a1 a2 a3 a4 a5; have a6' : wq.frozen? ⟨w.heap.size, 1, none⟩ = false := (hfroz _ _ (by rw [HWs.out]; omega)).trans (a6 1); have b0 : wq.frozen? ⟨w.heap.size + 1, 0, none⟩ = false := (hfroz _ _ (by rw [HWs.out]; omega)).trans (a7 0); have b1 : wq.frozen? ⟨w.heap.size + 1, 1, none⟩ = false := (hfroz _ _ (by rw [HWs.out]; omega)).trans (a7 1); have b2 : wq.frozen? ⟨w.heap.size + 1, 2, none⟩ = false := (hfroz _ _ (by rw [HWs.out]; omega)).trans (a7 2); have HX := Aside0.mk (And.intro ho hb); clear ho hb hat hg hcell hfroz a6 a7))
      rw [HT.out]
      refine bodyPost_ret (v := .tuple #[.agg #[.slice A b.length c, .int .i64 (t + n), .int .i64 e], vq]) (by simp [results, Try.results31, go_sem, *]) rfl ⟨_, by rw [HE.out.1], ?_, ?_⟩
      · refine Kd.R_lower (base := W.heap.size) ?_ (by rw [HWs.out]; omega)
        dsimp only
        repeat (with_reducible first | exact HX.out.1 | (refine R_low ?_ (by rw [HWs.out]; simp) _) | apply Kd.R_alloc)
      · repeat (with_reducible first | exact below_then HBW.out HBW.out.size HX.out.2 | (refine Below.setCell ?_ (by simp) _) | apply below_alloc | apply pw_below_drewN | apply below_drew1)
    · have HT := Aside0.mk (show RS.take ⟨b.drop t.toNat, t, e⟩ n = (⟨b.drop t.toNat, t, 4⟩, []) by unfold RS.take; simp only [List.length_drop]; rw [if_pos he, if_neg (by omega)])
      by_cases hneg : n < 0
      · have k1 : decide (n < 0) = true := decide_eq_true hneg
        clear he hok hneg hC
        go_enter Try.func31, Try.ntmps31
        go_wp2
        rw [HT.out]
        refine bodyPost_ret (v := .tuple #[.agg #[.slice A b.length c, .int .i64 t, .int .i64 4], .slice none 0 0]) (by simp [results, Try.results31, go_sem]) rfl ⟨_, rfl, Kd.R_nil _ _ _ _ _, (by repeat (first | exact Below.refl _ _ | apply below_alloc | apply pw_below_drewN | apply below_drew1 | (refine Below.setCell ?_ (by simp) _)))⟩
      · have k1 : decide (n < 0) = false := decide_eq_false hneg
        have k2 : decide ((b.length : Int) - t < n) = true := decide_eq_true (by omega)
        clear he hok hneg hC
        go_enter Try.func31, Try.ntmps31
        go_wp2
        rw [HT.out]
        refine bodyPost_ret (v := .tuple #[.agg #[.slice A b.length c, .int .i64 t, .int .i64 4], .slice none 0 0]) (by simp [results, Try.results31, go_sem]) rfl ⟨_, rfl, Kd.R_nil _ _ _ _ _, (by repeat (first | exact Below.refl _ _ | apply below_alloc | apply pw_below_drewN | apply below_drew1 | (refine Below.setCell ?_ (by simp) _)))⟩
  · have HT := Aside0.mk (show RS.take ⟨b.drop t.toNat, t, e⟩ n = (⟨b.drop t.toNat, t, e⟩, []) by unfold RS.take; rw [if_neg he])
    have hd : (e == 0) = false := by simpa using he
    have hd' : (e != 0) = true := by simpa using he
    clear he hC
    go_enter Try.func31, Try.ntmps31
    go_wp2
    rw [HT.out]
    refine bodyPost_ret (v := .tuple #[.agg #[.slice A b.length c, .int .i64 t, .int .i64 e], .slice none 0 0]) (by simp [results, Try.results31, go_sem]) rfl ⟨_, rfl, Kd.R_nil _ _ _ _ _, (by repeat (first | exact Below.refl _ _ | apply below_alloc | apply pw_below_drewN | apply below_drew1 | (refine Below.setCell ?_ (by simp) _)))⟩

set_option maxRecDepth 100000 in
set_option maxHeartbeats 1000000 in
theorem rFail_any (A : Option Addr) (m c : Nat) (t e n : Int) (s : RS) (w : World) (ht : s.t = t) (hse : s.e = e) :
    Calls Try.prog 34 #[.agg #[.slice A m c, .int .i64 t, .int .i64 e], .int .i64 n] w fun r w' => r = .returned (.agg #[.slice A m c, .int .i64 (s.fail n).t, .int .i64 (s.fail n).e]) ∧ Below w.heap.size w w' := by
  have hu := Try.underlying45
  subst ht hse
  by_cases he : s.e = 0
  · have HT := Aside0.mk (show s.fail n = ⟨s.l, s.t, n⟩ by unfold RS.fail; rw [if_pos he])
    have hd : (s.e == 0) = true := by simpa using he
    clear he
    go_enter Try.func34, Try.ntmps34
    go_wp2
    rw [HT.out]
    refine bodyPost_ret (v := .agg #[.slice A m c, .int .i64 s.t, .int .i64 n]) (by simp [results, Try.results34, go_sem]) rfl ⟨rfl, (by repeat (first | exact Below.refl _ _ | apply below_alloc | apply pw_below_drewN | apply below_drew1 | (refine Below.setCell ?_ (by simp) _)))⟩
  · have HT := Aside0.mk (show s.fail n = s by unfold RS.fail; rw [if_neg he])
    have hd : (s.e == 0) = false := by simpa using he
    clear he
    go_enter Try.func34, Try.ntmps34
    go_wp2
    rw [HT.out]
    refine bodyPost_ret (v := .agg #[.slice A m c, .int .i64 s.t, .int .i64 s.e]) (by simp [results, Try.results34, go_sem]) rfl ⟨rfl, (by repeat (first | exact Below.refl _ _ | apply below_alloc | apply pw_below_drewN | apply below_drew1 | (refine Below.setCell ?_ (by simp) _)))⟩

set_option maxRecDepth 100000 in
set_option maxHeartbeats 1000000 in
theorem rDone_any (A : Option Addr) (c : Nat) (b : List Int) (t e : Int) (w : World) (ht0 : 0 ≤ t) (ht1 : t ≤ b.length) :
    Calls Try.prog 38 #[.agg #[.slice A b.length c, .int .i64 t, .int .i64 e]] w fun r w' => r = .returned (.int .i64 (RS.done ⟨b.drop t.toNat, t, e⟩)) ∧ Below w.heap.size w w' := by
  have hu := Try.underlying45
  by_cases he : e = 0
  · have hd : (e == 0) = true := by simpa using he
    by_cases hl : t < b.length
    · have HT := Aside0.mk (show RS.done ⟨b.drop t.toNat, t, e⟩ = 3 by unfold RS.done; simp only [List.length_drop]; rw [if_pos he, if_neg (by omega)])
      have k1 : decide (t < (b.length : Int)) = true := decide_eq_true hl
      clear he hl
      go_enter Try.func38, Try.ntmps38
      go_wp2
      go_ret
      exact ⟨ret_int HT.out.symm, (by repeat (first | exact Below.refl _ _ | apply below_alloc | apply pw_below_drewN | apply below_drew1 | (refine Below.setCell ?_ (by simp) _)))⟩
    · have HT := Aside0.mk (show RS.done ⟨b.drop t.toNat, t, e⟩ = e by unfold RS.done; simp only [List.length_drop]; rw [if_pos he, if_pos (by omega), he])
      have k1 : decide (t < (b.length : Int)) = false := decide_eq_false hl
      clear he hl
      go_enter Try.func38, Try.ntmps38
      go_wp2
      go_ret
      exact ⟨ret_int HT.out.symm, (by repeat (first | exact Below.refl _ _ | apply below_alloc | apply pw_below_drewN | apply below_drew1 | (refine Below.setCell ?_ (by simp) _)))⟩
  · have HT := Aside0.mk (show RS.done ⟨b.drop t.toNat, t, e⟩ = e by unfold RS.done; rw [if_neg he])
    have hd : (e == 0) = false := by simpa using he
    clear he
    go_enter Try.func38, Try.ntmps38
    go_wp2
    go_ret
    exact ⟨ret_int HT.out.symm, (by repeat (first | exact Below.refl _ _ | apply below_alloc | apply pw_below_drewN | apply below_drew1 | (refine Below.setCell ?_ (by simp) _)))⟩

set_option maxRecDepth 100000 in
set_option maxHeartbeats 1000000 in
theorem rBytes_any (n : Int) (w : World) (h0 : 0 ≤ n) (h1 : n < 18446744073709551616) :
    Calls Try.prog 23 #[.int .u64 n] w fun r w' => ∃ v, r = .returned v ∧ Kd.R (Kd.int .u8) 5 w' w.heap.size (fun _ => True) v (encN n) ∧ Below w.heap.size w w' := by
  have HL := Aside0.mk (encN_len10 n h1)
  have HB := Aside0.mk (Below.refl w.heap.size w)
  have H1 := Aside0.mk h1
  clear h1
  go_enter Try.func23, Try.ntmps23
  go_wp2
  go_loopg [0, 3] n.toNat (fun kq v0 v3 w' => ∃ (m : Int) (out : List Int), v0 = .int .u64 m ∧ 0 ≤ m ∧ Aside0 (kq = m.toNat) ∧ Aside0 (m < 18446744073709551616 ∧ out ++ encN m = encN n) ∧ Aside0 (Kd.R (Kd.int .u8) 5 w' w.heap.size (fun _ => True) v3 out) ∧ Aside0 (Below w.heap.size w w'))
  case atStart => exact ⟨n, [], rfl, h0, ⟨rfl⟩, ⟨H1.out, rfl⟩, ⟨Kd.R_nil _ _ _ _ _⟩, HB⟩
  case round =>
    clear HB
    obtain ⟨m, out, rfl, hm0, HK, HI, HO, HB⟩ := hrel
    have hol : out.length ≤ 10 := by have := congrArg List.length HI.out.2; rw [List.length_append] at this; have := HL.out; omega
    by_cases hbig : m < 128
    · have hb1 : decide (128 ≤ m) = false := decide_eq_false (by omega)
      go_wp2_with (first | ((with_reducible refine gate_builtin (b := .append) (xs := #[.tmp 15, .tmp 18]) rfl ?_); at_builtin; refine Kd.R_append (Kd.int .u8) (w0 := w) w.heap.size rfl (.tmp 15) (.tmp 18) 27 5 (.int .u8 0) 1 rfl Try.underlying27 info5 rfl (by decide) (by omega) u3 out m [.int .u8 m] (fun _ => True) (fun _ => False) rfl rfl ?aP (fun _ hk => hk.elim) (fun _ _ => trivial) ?aO ?aB ?aS ?aL ?_; (case aP => exact rfl); (case aB => exact (by repeat (first | (with_reducible first | exact HB.out | apply below_alloc | apply pw_below_drewN | apply below_drew1) | exact HB.out))); (case aO => exact (by (with_reducible repeat (first | apply Kd.R_alloc | apply Kd.R_drewN | apply Kd.R_drew)); exact HO.out)); (case aS => exact (below_size (by repeat (first | (with_reducible first | exact HB.out | apply below_alloc | apply pw_below_drewN | apply below_drew1) | exact HB.out)))); (case aL => omega); intro vq wq ho hb hg hat; have n0_ := Aside0.mk hb; have n1_ := Aside0.mk ho; clear HB; clear HO; have HB := n0_; have HO2 := n1_; clear n0_ n1_ ho hb hg hat))
      go_ret
      exact ⟨_, rfl, by have h2 := HO2.out; rw [← encN_small hbig, HI.out.2] at h2; exact h2, HB.out⟩
    · have hb1 : decide (128 ≤ m) = true := decide_eq_true (by omega)
      have hm1 : m ≤ 18446744073709551615 := by have := HI.out.1; omega
      have HM := Aside0.mk (show (128 + m % 128) % 256 = 128 + m % 128 by omega)
      go_wp2_with (first | ((with_reducible refine gate_builtin (b := .append) (xs := #[.tmp 6, .tmp 11]) rfl ?_); at_builtin; refine Kd.R_append (Kd.int .u8) (w0 := w) w.heap.size rfl (.tmp 6) (.tmp 11) 27 5 (.int .u8 0) 1 rfl Try.underlying27 info5 rfl (by decide) (by omega) u3 out (128 + m % 128) [.int .u8 (128 + m % 128)] (fun _ => True) (fun _ => False) rfl rfl ?aP (fun _ hk => hk.elim) (fun _ _ => trivial) ?aO ?aB ?aS ?aL ?_; (case aP => exact rfl); (case aB => exact (by repeat (first | (with_reducible first | exact HB.out | apply below_alloc | apply pw_below_drewN | apply below_drew1) | exact HB.out))); (case aO => exact (by (with_reducible repeat (first | apply Kd.R_alloc | apply Kd.R_drewN | apply Kd.R_drew)); exact HO.out)); (case aS => exact (below_size (by repeat (first | (with_reducible first | exact HB.out | apply below_alloc | apply pw_below_drewN | apply below_drew1) | exact HB.out)))); (case aL => omega); intro vq wq ho hb hg hat; have n0_ := Aside0.mk hb; have n1_ := Aside0.mk ho; clear HB; clear HO; have HB := n0_; have HO2 := n1_; clear n0_ n1_ ho hb hg hat))
      go_roundg ((m / 128).toNat)
      case measure => have := HK.out; omega
      case rel => exact ⟨m / 128, out ++ [128 + m % 128], rfl, by omega, ⟨rfl⟩, ⟨by have := HI.out.1; omega, by rw [← HI.out.2, encN_big (show ¬ m < 128 by omega)]; simp⟩, ⟨(by (with_reducible repeat (first | apply Kd.R_alloc | apply Kd.R_drewN | apply Kd.R_drew)); exact HO2.out)⟩, ⟨(by repeat (first | (with_reducible first | exact HB.out | apply below_alloc | apply pw_below_drewN | apply below_drew1) | exact HB.out))⟩⟩
end Go.Proofs.Ytpephndecdkfhaa
