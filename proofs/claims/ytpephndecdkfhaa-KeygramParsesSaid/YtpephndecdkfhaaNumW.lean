/- The reference's reader, second part. -/
import Derived.Test.YtpephndecdkfhaaNumV
namespace Go.Proofs.Ytpephndecdkfhaa
open Go.RowKit Go.Proofs.YtpephndecdkfhaaW.PrintWords Go.Proofs.YtpephndecdkfhaaW.PrintLast Go.Proofs.YtpephndecdkfhaaW.PrintMore
set_option linter.unusedVariables false
set_option linter.unusedSimpArgs false

/-- The reference's reader as a value. -/
def rv (A : Option Addr) (n c : Nat) (t e : Int) : Value := .agg #[.slice A n c, .int .i64 t, .int .i64 e]

set_option maxRecDepth 100000 in
set_option maxHeartbeats 1000000 in
theorem rNumber_any (A : Option Addr) (c : Nat) (b : List Int) (t e : Int) (w : World) (hC : Kd.C (Kd.int .u8) w A b.length b) (hc : b.length ≤ c) (h8 : In8 b) (ht0 : 0 ≤ t) (ht1 : t ≤ b.length) (hbl : b.length ≤ 140737488355328) :
    Calls Try.prog 26 #[.agg #[.slice A b.length c, .int .i64 t, .int .i64 e]] w fun r w' => r = .returned (.tuple #[.agg #[.slice A b.length c, .int .i64 (RS.number ⟨b.drop t.toNat, t, e⟩).1.t, .int .i64 (RS.number ⟨b.drop t.toNat, t, e⟩).1.e], .int .u64 (RS.number ⟨b.drop t.toNat, t, e⟩).2]) ∧ Below w.heap.size w w' := by
  have hu := Try.underlying45
  by_cases he : e = 0
  · obtain ⟨m, k, e', hrd⟩ : ∃ m k e, rdNum 0 0 (b.drop t.toNat) = (m, k, e) := ⟨_, _, _, rfl⟩
    obtain ⟨A', hcut, hread, hlen⟩ := cut_drop (P := Try.prog) (Kd.int .u8) 27 5 .i64 Try.underlying27 info5 A c b t ht0 ht1 hc
    have HRD := fun W hW => rRead_any A' (c - t.toNat) (b.drop t.toNat) W m k e' (hread W (C_below0 hC hW)) (h8.drop _) hrd
    have hbd := rdNum_bounds _ (h8.drop t.toNat)
    rw [hrd] at hbd
    simp only at hbd
    rw [List.length_drop] at HRD hcut hbd
    replace HRD := Aside0.mk HRD
    have hk0 := hbd.2.2.1
    have hk1 := hbd.2.2.2.1
    have HN := Aside0.mk (show RS.number ⟨b.drop t.toNat, t, e⟩ = (⟨if e' = 0 then (b.drop t.toNat).drop k.toNat else b.drop t.toNat, t + k, e'⟩, m) by
      unfold RS.number
      simp only [he, hrd, if_true]
      rcases hbd.2.2.2.2 with h | ⟨h1, h2, h3⟩ | ⟨h1, h2, h3⟩
      · subst h; simp
      · subst h1 h2 h3; simp
      · subst h1 h2 h3; simp)
    have hd : (e != 0) = false := by simpa using he
    have HE := Aside0.mk he
    clear he hrd hbd hread hlen hC h8
    go_enter Try.func26, Try.ntmps26
    go_wp2_with (first | (go_at_call 24; refine (HRD.out _ (by repeat (first | exact Below.refl _ _ | apply below_alloc))).mono ?_; rintro r w1 ⟨rfl, rfl⟩))
    rw [HN.out]
    refine bodyPost_ret (v := .tuple #[.agg #[.slice A b.length c, .int .i64 (t + k), .int .i64 e'], .int .u64 m]) (by simp [results, Try.results26, go_sem]) rfl ⟨rfl, (by repeat (first | exact Below.refl _ _ | apply below_alloc | apply pw_below_drewN | apply below_drew1 | (refine Below.setCell ?_ (by simp) _)))⟩
  · have HN := Aside0.mk (show RS.number ⟨b.drop t.toNat, t, e⟩ = (⟨b.drop t.toNat, t, e⟩, 0) by unfold RS.number; rw [if_neg he])
    have hd : (e != 0) = true := by simpa using he
    clear he hC
    go_enter Try.func26, Try.ntmps26
    go_wp2
    rw [HN.out]
    refine bodyPost_ret (v := .tuple #[.agg #[.slice A b.length c, .int .i64 t, .int .i64 e], .int .u64 0]) (by simp [results, Try.results26, go_sem]) rfl ⟨rfl, (by repeat (first | exact Below.refl _ _ | apply below_alloc | apply pw_below_drewN | apply below_drew1 | (refine Below.setCell ?_ (by simp) _)))⟩

theorem RS.number_t {b : List Int} {t e : Int} (h8 : In8 b) (ht0 : 0 ≤ t) (ht1 : t ≤ b.length) : (RS.number ⟨b.drop t.toNat, t, e⟩).1.l = b.drop (RS.number ⟨b.drop t.toNat, t, e⟩).1.t.toNat ∧ t ≤ (RS.number ⟨b.drop t.toNat, t, e⟩).1.t ∧ (RS.number ⟨b.drop t.toNat, t, e⟩).1.t ≤ b.length := by
  have hbd := rdNum_bounds _ (h8.drop t.toNat)
  rw [List.length_drop] at hbd
  unfold RS.number
  dsimp only
  split
  · split
    · refine ⟨?_, ?_, ?_⟩
      · show (b.drop t.toNat).drop _ = b.drop (t + _).toNat
        rw [List.drop_drop]
        congr 1
        omega
      · show t ≤ t + _; omega
      · show t + _ ≤ _; omega
    · exact ⟨rfl, Int.le_refl _, ht1⟩
  · exact ⟨rfl, Int.le_refl _, ht1⟩
theorem RS.up_t {b : List Int} {t e most err : Int} (h8 : In8 b) (ht0 : 0 ≤ t) (ht1 : t ≤ b.length) : (RS.up ⟨b.drop t.toNat, t, e⟩ most err).1.l = b.drop (RS.up ⟨b.drop t.toNat, t, e⟩ most err).1.t.toNat ∧ t ≤ (RS.up ⟨b.drop t.toNat, t, e⟩ most err).1.t ∧ (RS.up ⟨b.drop t.toNat, t, e⟩ most err).1.t ≤ b.length := by
  have h := RS.number_t (e := e) h8 ht0 ht1
  unfold RS.up
  split
  · split
    · split
      · exact h
      · exact ⟨rfl, Int.le_refl _, ht1⟩
    · exact h
  · exact ⟨rfl, Int.le_refl _, ht1⟩
theorem RS.take_t {b : List Int} {t e n : Int} (ht0 : 0 ≤ t) (ht1 : t ≤ b.length) : (RS.take ⟨b.drop t.toNat, t, e⟩ n).1.l = b.drop (RS.take ⟨b.drop t.toNat, t, e⟩ n).1.t.toNat ∧ t ≤ (RS.take ⟨b.drop t.toNat, t, e⟩ n).1.t ∧ (RS.take ⟨b.drop t.toNat, t, e⟩ n).1.t ≤ b.length := by
  unfold RS.take
  split
  · split
    · rename_i h
      simp only [List.length_drop] at h
      refine ⟨?_, ?_, ?_⟩
      · show (b.drop t.toNat).drop _ = b.drop (t + _).toNat
        rw [List.drop_drop]
        congr 1
        omega
      · show t ≤ t + _; omega
      · show t + _ ≤ _; omega
    · exact ⟨rfl, Int.le_refl _, ht1⟩
  · exact ⟨rfl, Int.le_refl _, ht1⟩

set_option maxRecDepth 100000 in
set_option maxHeartbeats 1000000 in
theorem rUp_any (A : Option Addr) (c : Nat) (b : List Int) (t e most err : Int) (w : World) (hC : Kd.C (Kd.int .u8) w A b.length b) (hc : b.length ≤ c) (h8 : In8 b) (ht0 : 0 ≤ t) (ht1 : t ≤ b.length) (hbl : b.length ≤ 140737488355328) (hm0 : -9223372036854775808 ≤ most) (hm : most ≤ 9223372036854775807) :
    Calls Try.prog 28 #[.agg #[.slice A b.length c, .int .i64 t, .int .i64 e], .int .i64 most, .int .i64 err] w fun r w' => r = .returned (.tuple #[.agg #[.slice A b.length c, .int .i64 (RS.up ⟨b.drop t.toNat, t, e⟩ most err).1.t, .int .i64 (RS.up ⟨b.drop t.toNat, t, e⟩ most err).1.e], .int .i64 (RS.up ⟨b.drop t.toNat, t, e⟩ most err).2]) ∧ Below w.heap.size w w' := by
  have hu := Try.underlying45
  have HN := Aside0.mk (fun W hW => rNumber_any A c b t e W (C_below0 hC hW) hc h8 ht0 ht1 hbl)
  have hfine : RS.fine ⟨b.drop t.toNat, t, e⟩ := ⟨h8.drop _, ht0, by show t + ((b.drop t.toNat).length : Int) ≤ _; rw [List.length_drop]; omega⟩
  have hrange := RS.number_range hfine
  have HNB := Aside0.mk (fun he => RS.number_bad (s := ⟨b.drop t.toNat, t, e⟩) he)
  have HYE := Aside0.mk (fun he => RS.up_e (s := ⟨b.drop t.toNat, t, e⟩) (most := most) (err := err) he)
  have HY := Aside0.mk (fun he h2 h3 => RS.up_yes (s := ⟨b.drop t.toNat, t, e⟩) (most := most) (err := err) he h2 h3)
  have HO := Aside0.mk (fun he h2 h3 => RS.up_no (s := ⟨b.drop t.toNat, t, e⟩) (most := most) (err := err) he h2 h3)
  have HD := Aside0.mk (fun he h2 => RS.up_bad (s := ⟨b.drop t.toNat, t, e⟩) (most := most) (err := err) he h2)
  have HNE := Aside0.mk (fun (he : ¬ e = 0) => show RS.number ⟨b.drop t.toNat, t, e⟩ = (⟨b.drop t.toNat, t, e⟩, 0) by unfold RS.number; rw [if_neg he])
  clear hC hfine
  generalize hs : RS.up ⟨b.drop t.toNat, t, e⟩ most err = up at *
  obtain ⟨s1, n, hn⟩ : ∃ s1 n, RS.number ⟨b.drop t.toNat, t, e⟩ = (s1, n) := ⟨_, _, rfl⟩
  rw [hn] at HN HNB HY HO HD hrange HNE
  simp only at HN HNB HYE HY HO HD hrange
  have hn0 := hrange.1
  have HH := Aside0.mk hrange
  clear hrange hs
  by_cases he1 : s1.e = 0
  · have hd1 : (s1.e == 0) = true := by simpa using he1
    have he : e = 0 := by
      by_cases he : e = 0
      · exact he
      · have := HNE.out he; simp only [Prod.mk.injEq] at this; rw [this.1] at he1; exact absurd he1 he
    by_cases hok : 0 ≤ most ∧ n ≤ most
    · have HE := Aside0.mk (HY.out he he1 hok)
      have k1 : decide (most < 0) = false := decide_eq_false (by omega)
      have k2 : decide (IntKind.u64.wrap most < n) = false := decide_eq_false (by rw [IntKind.wrap_u64]; omega)
      have k3 : IntKind.u64.wrap most = most := by rw [IntKind.wrap_u64]; omega
      have hn1 : n ≤ most := hok.2
      have hm1 : 0 ≤ most := hok.1
      clear he1 hok he k2 hn
      go_enter Try.func28, Try.ntmps28
      go_wp2_with (first | (go_at_call 26; refine (HN.out _ (by repeat (first | exact Below.refl _ _ | apply below_alloc | apply pw_below_drewN | apply below_drew1 | (refine Below.setCell ?_ (by simp) _)))).mono ?_; rintro r w1 ⟨rfl, hb⟩; obtain ⟨hcell, hfroz⟩ := bcell hb; have hsz : w.heap.size + 1 < w1.heap.size := (by have := hb.size; simp at this; omega); have hsz0 : w.heap.size < w1.heap.size := (by omega); have a0 : w1.cell? ⟨w.heap.size, 0, none⟩ = some (.slice A b.length c) := (by rw [hcell _ _ (by simp; omega)]; simp); have a1 : w1.cell? ⟨w.heap.size, 1, none⟩ = some (.int .i64 t) := (by rw [hcell _ _ (by simp; omega)]; simp); have a2 : w1.cell? ⟨w.heap.size, 2, none⟩ = some (.int .i64 e) := (by rw [hcell _ _ (by simp; omega)]; simp); have HX := Aside0.mk hb; clear hb))
      rw [HE.out]
      refine bodyPost_ret (v := .tuple #[.agg #[.slice A b.length c, .int .i64 s1.t, .int .i64 s1.e], .int .i64 n]) (by simp [results, Try.results28, go_sem, hcell, hfroz, hsz, hsz0]) rfl ⟨rfl, (by repeat (first | exact below_step (by repeat (first | exact Below.refl _ _ | apply below_alloc)) HX.out | apply below_alloc | apply pw_below_drewN | apply below_drew1 | (refine Below.setCell ?_ (by simp) _)))⟩
    · have HE := Aside0.mk (HO.out he he1 hok)
      by_cases hneg : most < 0
      · have k1 : decide (most < 0) = true := decide_eq_true hneg
        clear he1 hok he hn hneg
        go_enter Try.func28, Try.ntmps28
        go_wp2_with (first | (go_at_call 26; refine (HN.out _ (by repeat (first | exact Below.refl _ _ | apply below_alloc | apply pw_below_drewN | apply below_drew1 | (refine Below.setCell ?_ (by simp) _)))).mono ?_; rintro r w1 ⟨rfl, hb⟩; obtain ⟨hcell, hfroz⟩ := bcell hb; have hsz : w.heap.size + 1 < w1.heap.size := (by have := hb.size; simp at this; omega); have hsz0 : w.heap.size < w1.heap.size := (by omega); have a0 : w1.cell? ⟨w.heap.size, 0, none⟩ = some (.slice A b.length c) := (by rw [hcell _ _ (by simp; omega)]; simp); have a1 : w1.cell? ⟨w.heap.size, 1, none⟩ = some (.int .i64 t) := (by rw [hcell _ _ (by simp; omega)]; simp); have a2 : w1.cell? ⟨w.heap.size, 2, none⟩ = some (.int .i64 e) := (by rw [hcell _ _ (by simp; omega)]; simp); have HX := Aside0.mk hb; clear hb))
        rw [HE.out]
        refine bodyPost_ret (v := .tuple #[.agg #[.slice A b.length c, .int .i64 t, .int .i64 err], .int .i64 0]) (by simp [results, Try.results28, go_sem, hcell, hfroz, hsz, hsz0]) rfl ⟨rfl, (by repeat (first | exact below_step (by repeat (first | exact Below.refl _ _ | apply below_alloc)) HX.out | apply below_alloc | apply pw_below_drewN | apply below_drew1 | (refine Below.setCell ?_ (by simp) _)))⟩
      · have k1 : decide (most < 0) = false := decide_eq_false hneg
        have k3 : IntKind.u64.wrap most = most := by rw [IntKind.wrap_u64]; omega
        have k2 : decide (most < n) = true := decide_eq_true (by omega)
        have hm1 : 0 ≤ most := by omega
        clear he1 hok he hn hneg
        go_enter Try.func28, Try.ntmps28
        go_wp2_with (first | (go_at_call 26; refine (HN.out _ (by repeat (first | exact Below.refl _ _ | apply below_alloc | apply pw_below_drewN | apply below_drew1 | (refine Below.setCell ?_ (by simp) _)))).mono ?_; rintro r w1 ⟨rfl, hb⟩; obtain ⟨hcell, hfroz⟩ := bcell hb; have hsz : w.heap.size + 1 < w1.heap.size := (by have := hb.size; simp at this; omega); have hsz0 : w.heap.size < w1.heap.size := (by omega); have a0 : w1.cell? ⟨w.heap.size, 0, none⟩ = some (.slice A b.length c) := (by rw [hcell _ _ (by simp; omega)]; simp); have a1 : w1.cell? ⟨w.heap.size, 1, none⟩ = some (.int .i64 t) := (by rw [hcell _ _ (by simp; omega)]; simp); have a2 : w1.cell? ⟨w.heap.size, 2, none⟩ = some (.int .i64 e) := (by rw [hcell _ _ (by simp; omega)]; simp); have HX := Aside0.mk hb; clear hb))
        rw [HE.out]
        refine bodyPost_ret (v := .tuple #[.agg #[.slice A b.length c, .int .i64 t, .int .i64 err], .int .i64 0]) (by simp [results, Try.results28, go_sem, hcell, hfroz, hsz, hsz0]) rfl ⟨rfl, (by repeat (first | exact below_step (by repeat (first | exact Below.refl _ _ | apply below_alloc)) HX.out | apply below_alloc | apply pw_below_drewN | apply below_drew1 | (refine Below.setCell ?_ (by simp) _)))⟩
  · have hd1 : (s1.e == 0) = false := by simpa using he1
    have HE := Aside0.mk (show up = (s1, 0) ∧ n = 0 by
      by_cases he : e = 0
      · exact ⟨HD.out he he1, HNB.out he he1⟩
      · have := HNE.out he; simp only [Prod.mk.injEq] at this; rw [HYE.out he, this.1]; exact ⟨rfl, this.2⟩)
    have hn9 : n ≤ 9223372036854775807 := by have := HE.out.2; omega
    clear he1 hn
    go_enter Try.func28, Try.ntmps28
    go_wp2_with (first | (go_at_call 26; refine (HN.out _ (by repeat (first | exact Below.refl _ _ | apply below_alloc | apply pw_below_drewN | apply below_drew1 | (refine Below.setCell ?_ (by simp) _)))).mono ?_; rintro r w1 ⟨rfl, hb⟩; obtain ⟨hcell, hfroz⟩ := bcell hb; have hsz : w.heap.size + 1 < w1.heap.size := (by have := hb.size; simp at this; omega); have hsz0 : w.heap.size < w1.heap.size := (by omega); have a0 : w1.cell? ⟨w.heap.size, 0, none⟩ = some (.slice A b.length c) := (by rw [hcell _ _ (by simp; omega)]; simp); have a1 : w1.cell? ⟨w.heap.size, 1, none⟩ = some (.int .i64 t) := (by rw [hcell _ _ (by simp; omega)]; simp); have a2 : w1.cell? ⟨w.heap.size, 2, none⟩ = some (.int .i64 e) := (by rw [hcell _ _ (by simp; omega)]; simp); have HX := Aside0.mk hb; clear hb))
    rw [HE.out.1]
    refine bodyPost_ret (v := .tuple #[.agg #[.slice A b.length c, .int .i64 s1.t, .int .i64 s1.e], .int .i64 n]) (by simp [results, Try.results28, go_sem, hcell, hfroz, hsz, hsz0]) rfl ⟨by rw [HE.out.2], (by repeat (first | exact below_step (by repeat (first | exact Below.refl _ _ | apply below_alloc)) HX.out | apply below_alloc | apply pw_below_drewN | apply below_drew1 | (refine Below.setCell ?_ (by simp) _)))⟩
end Go.Proofs.Ytpephndecdkfhaa
