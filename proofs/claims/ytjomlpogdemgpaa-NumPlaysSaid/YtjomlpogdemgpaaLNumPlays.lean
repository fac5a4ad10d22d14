/- NumPlays holds: whatever a reader of any bytes is asked, each answer is the document's. No condition. -/
import Derived.Test.YtjomlpogdemgpaaPlayB
import Derived.Test.YtjomlpogdemgpaaRows
import Derived.Test.YtjomlpogdemgpaaNumKnown
import Derived.Test.YtjomlpogdemgpaaOpn
import Derived.Test.YtjomlpogdemgpaaUng
import Derived.Deep.RegionHeld3
import Derived.BigQuiet
import Derived.Deep.QuietTactic
import Derived.ProofKit
import Derived.OpenShut
namespace Go.Proofs.Ytjomlpogdemgpaa
open Go.ChangeShapes Go.WideShapes Go.ChangeAt Go.RowKit Go.Proofs.YtjomlpogdemgpaaW.PrintWords Go.Proofs.YtjomlpogdemgpaaW.PrintLast Go.Proofs.YtjomlpogdemgpaaW.PrintMore
set_option linter.unusedVariables false
set_option linter.unusedSimpArgs false
attribute [local go_sem] max2_int min2_int max_two min_two
theorem wf_u8s {l : List Int} (h : ∀ x ∈ l, (Lit.int .u8 x).wf = true) : In8 l := fun x hx => by have := bounds_u8 (h x hx); omega
theorem rSame_eq (A B : Option Addr) (c d : Nat) (a : List Int) (w : World) (hA : Kd.C (Kd.int .u8) w A a.length a) (hB : Kd.C (Kd.int .u8) w B a.length a) (ha : In8 a) :
    Calls Try.prog 25 #[.slice A a.length c, .slice B a.length d] w fun r w' => r = .returned (.bool true) ∧ w' = w := by
  have h := rSame_any A B c d a a w hA hB ha ha
  simpa using h
theorem opn_Act : Opn Try.prog 59 (Kd.pair (Kd.int .i64) (Kd.int .i64)) (fun x => (Lit.int .i64 x.1).wf = true ∧ (Lit.int .i64 x.2).wf = true) := by
  refine @Opn.struct _ _ _ _ _ _ Try.underlying59 (by kernel_rfl) ?_
  refine @Flds.cons _ _ _ _ _ _ _ _ (fun n => (Lit.int .i64 n).wf = true) (fun n => (Lit.int .i64 n).wf = true) ?_ ?_ ?_
  · exact @Opn.int _ _ _ Try.underlying3
  · exact ⟨rfl, by kernel_rfl⟩
  · refine @Flds.one _ _ _ _ _ _ ?_ ?_
    · exact @Opn.int _ _ _ Try.underlying3
    · exact ⟨rfl, by kernel_rfl⟩
set_option maxRecDepth 100000 in
set_option maxHeartbeats 4000000 in
theorem walk_NumPlays (A : Option Addr) (c : Nat) (l : List Int) (B : Option Addr) (d : Nat) (acts : List (Int × Int)) (w : World) (hC : Kd.C (Kd.int .u8) w A l.length l) (hc : l.length ≤ c) (hq : ∀ x ∈ l, (Lit.int .u8 x).wf = true)
    (hC' : Kd.C (Kd.pair (Kd.int .i64) (Kd.int .i64)) w B acts.length acts) (hc' : acts.length ≤ d) (hq' : ∀ x ∈ acts, (Lit.int .i64 x.1).wf = true ∧ (Lit.int .i64 x.2).wf = true) :
    Calls Try.prog 8 #[.slice A l.length c, .slice B acts.length d] w fun r w' => r = .returned (.bool true) ∧ Below w.heap.size w w' := by
  have h8 := wf_u8s hq
  obtain ⟨n, hn⟩ : ∃ n, n = min l.length 200 := ⟨_, rfl⟩
  obtain ⟨hcut, hread, hlen⟩ := cut_take (P := Try.prog) (Kd.int .u8) 29 5 .i64 Try.underlying29 info5 A c l (n : Int) (by omega) (by omega) hc
  have hmin : (if (200 : Int) < (l.length : Int) then (200 : Int) else (l.length : Int)) = (n : Int) := by split <;> omega
  have hl : (l.take n).length = n := by rw [List.length_take]; omega
  have hn200 : n ≤ 200 := by omega
  simp only [Int.toNat_natCast] at hcut hread hlen
  have hC2 := hread w hC
  have h82 := h8.take n
  clear hC hread h8 hn hq
  generalize l.take n = L at *
  obtain rfl : n = L.length := hl.symm
  clear hl
  have HNEW := Aside0.mk (fun W hW => New_any A c L w W hW hC2 hlen)
  have HC := Aside0.mk hC2
  have H8 := Aside0.mk h82
  have HA := Aside0.mk hC'
  have HQ := Aside0.mk hq'
  have hm := hC'.2.1
  have HL := Aside0.mk (And.intro hn200 hlen)
  clear hC2 h82 hC' hq' hn200 hlen hc hc'
  go_enter Try.func8, Try.ntmps8
  go_wp2_with (first | (go_at_call 31; (refine (HNEW.out _ (by exact Below.refl _ _)).mono ?_); rintro r w1 ⟨gR, rfl, hR, hb, hge⟩; have HR := Aside0.mk (And.intro hR (And.intro hb hge)); clear hR hb hge))
  obtain ⟨gM, hgM⟩ : ∃ gM, gM = w1.heap.size := ⟨_, rfl⟩
  have HST := Aside0.mk (show Play w (w1.alloc (.cells #[.slice A L.length c, .int .i64 0, .int .i64 0] 57)) gR gM A c L ⟨L, 0, 0⟩ from by
    obtain ⟨hR, hb, hge⟩ := HR.out
    have hlt : gR < w1.heap.size := (show RdS w w1 gR ⟨L, 0, 0⟩ from ⟨hR, H8.out, by simp, by have := HL.out.1; simp; omega⟩).lt
    have hR2 : RdS w w1 gR ⟨L, 0, 0⟩ := ⟨hR, H8.out, by simp, by have := HL.out.1; simp; omega⟩
    subst hgM
    exact ⟨hR2.alloc _, by simpa using heap_alloc_new w1 _, below_alloc hb _, by simp, by simp, by simp, by omega, hb.size, HC.out, HL.out.2, H8.out, HL.out.1⟩)
  rw [← hgM]
  clear HR hcut hmin HNEW
  go_loopg [7] 40 (fun kq v7 w' => ∃ (k : Nat) (s : RS), v7 = .int .i64 k ∧ k ≤ 40 ∧ Aside0 (kq = 40 - k) ∧ Aside0 (Play w w' gR gM A c L s))
  case atStart => exact ⟨0, _, rfl, by omega, ⟨by omega⟩, HST⟩
  case round =>
    clear HST hgM
    obtain ⟨k, s, rfl, hk, HK, HP⟩ := hrel
    by_cases h1 : k < acts.length
    · have hd1 : decide (k < acts.length) = true := decide_eq_true h1
      by_cases h2 : k < 40
      · have hd2 : decide ((k : Int) < 40) = true := decide_eq_true (by omega)
        obtain ⟨ad, rfl, x0, x1⟩ := at_pair2 HA.out (k : Int) (by omega) (by omega)
        simp only [Int.toNat_natCast] at x0 x1
        have hmem : acts.getD k (0, 0) ∈ acts := by rw [List.getD_eq_getElem?_getD, List.getElem?_eq_getElem h1]; exact List.getElem_mem h1
        have hwf := HQ.out _ hmem
        generalize acts.getD k (0, 0) = a at *
        obtain ⟨kd, n⟩ := a
        simp only at x0 x1 hwf
        replace x0 := (HP.out.bel.cell (World.block_lt_of_cell? w _ x0)).trans x0
        replace x1 := (HP.out.bel.cell (World.block_lt_of_cell? w _ x1)).trans x1
        have x2 : wr.cell? ⟨(ad.add (k * 2)).block, (ad.add (k * 2)).off + 1, none⟩ = some (.int .i64 n) := by rw [show (⟨(ad.add (k * 2)).block, (ad.add (k * 2)).off + 1, none⟩ : Addr) = ad.add (k * 2 + 1) from by rw [← Addr.add_add]; rfl]; exact x1
        clear x1
        have hn := bounds_i64 hwf.2
        have HN := Aside0.mk hn
        obtain ⟨hM, m0, m1, m2, m3, m4, m5⟩ := HP.out.cells
        have hM2 : ¬ wr.heap.size = gM := by omega
        clear hmem hwf hn
        have hu := Try.underlying57
        have hu2 := Try.underlying59
        by_cases k0 : kd = 0
        · have t0 : (kd == 0) = true := by simpa using k0
          clear k0
          go_wp2_with (first | (go_at_call 32; (refine (HP.out.rNumber (by repeat (first | exact Below.refl _ _ | apply below_alloc | apply pw_below_drewN | apply below_drew1 | (refine Below.setCell ?_ (by simp) _)))).mono ?_); (rintro r w2 ⟨rfl, hb⟩); obtain ⟨hcell, hfroz⟩ := bcell hb; (have q1 : w2.cell? ⟨wr.heap.size, 1, none⟩ = some (.int .i64 n) := (by rw [hcell _ _ (by simp)]; simp)); (have hsz := hb.size; simp at hsz); (have hb2 : Below wr.heap.size wr w2 := below_step (below_alloc (Below.refl _ _) _) hb); (obtain ⟨hM5, y0, y1, y2, y3, y4, y5⟩ := (HP.out.below hb2).cells); (have hM3 : ¬ w2.heap.size = gM := (by omega)); have hM7 : wr.heap.size < w2.heap.size := (by omega); (have hM4 : ¬ w2.heap.size = wr.heap.size := (by omega)); have H2 := Aside0.mk hb2; (clear hb hb2 hcell hfroz hsz)) | (go_at_call 33; (refine (HP.out.number H2.out _).mono ?_); (rintro r w3 ⟨rfl, hP⟩); obtain ⟨hM6, z0, z1, z2, z3, z4, z5⟩ := hP.cells; have HF := Aside0.mk hP; clear hP))
          go_region_held3 (fun w' => w'.cell? ⟨gM, 0, none⟩ = some (.slice A L.length c) ∧ w'.cell? ⟨gM, 1, none⟩ = some (.int .i64 s.number.1.t) ∧ w'.cell? ⟨gM, 2, none⟩ = some (.int .i64 s.number.1.e)) (first | exact HF.out.held (below_step (by repeat (first | exact Below.refl _ _ | apply below_alloc | apply pw_below_drewN | apply below_drew1 | (refine Below.setCell ?_ (by simp) _))) HD.out) | exact HF.out.held (by repeat (first | exact Below.refl _ _ | apply below_alloc | apply pw_below_drewN | apply below_drew1 | (refine Below.setCell ?_ (by simp) _)))) (first | (go_at_call 41; (refine (HF.out.err (by repeat (first | exact Below.refl _ _ | apply below_alloc | apply pw_below_drewN | apply below_drew1 | (refine Below.setCell ?_ (by simp) _)))).mono ?_); rintro r w8 ⟨rfl, hw⟩; obtain rfl := hw.symm) | (go_at_call 42; (refine (HF.out.at_ (by repeat (first | exact Below.refl _ _ | apply below_alloc | apply pw_below_drewN | apply below_drew1 | (refine Below.setCell ?_ (by simp) _)))).mono ?_); rintro r w8 ⟨rfl, hw⟩; obtain rfl := hw.symm) | (go_at_call 43; (refine (HF.out.done (by repeat (first | exact Below.refl _ _ | apply below_alloc | apply pw_below_drewN | apply below_drew1 | (refine Below.setCell ?_ (by simp) _)))).mono ?_); rintro r w8 ⟨rfl, hw⟩; obtain rfl := hw.symm) | (go_at_call 44; (refine (HF.out.rDone).mono ?_); rintro r w8 ⟨rfl, hb⟩; have HD := Aside0.mk hb; clear hb))
          go_wp2
          go_roundg (40 - (k + 1))
          case measure => have := HK.out; omega
          case rel => exact ⟨k + 1, _, by push_cast; rfl, by omega, ⟨rfl⟩, ⟨HF.out.below (below_step (by repeat (first | exact Below.refl _ _ | apply below_alloc | apply pw_below_drewN | apply below_drew1 | (refine Below.setCell ?_ (by simp) _))) HD.out)⟩⟩
        · skip
          by_cases k1 : kd = 1
          · have t1 : (kd == 1) = true := by simpa using k1
            have t0 : (kd == 0) = false := by simpa using k0
            clear k0 k1
            go_wp2_with (first | (go_at_call 34; (refine (HP.out.rUp (by repeat (first | exact Below.refl _ _ | apply below_alloc | apply pw_below_drewN | apply below_drew1 | (refine Below.setCell ?_ (by simp) _))) n 5 HN.out.1 HN.out.2).mono ?_); (rintro r w2 ⟨rfl, hb⟩); obtain ⟨hcell, hfroz⟩ := bcell hb; (have q1 : w2.cell? ⟨wr.heap.size, 1, none⟩ = some (.int .i64 n) := (by rw [hcell _ _ (by simp)]; simp)); (have hsz := hb.size; simp at hsz); (have hb2 : Below wr.heap.size wr w2 := below_step (below_alloc (Below.refl _ _) _) hb); (obtain ⟨hM5, y0, y1, y2, y3, y4, y5⟩ := (HP.out.below hb2).cells); (have hM3 : ¬ w2.heap.size = gM := (by omega)); have hM7 : wr.heap.size < w2.heap.size := (by omega); (have hM4 : ¬ w2.heap.size = wr.heap.size := (by omega)); have H2 := Aside0.mk hb2; (clear hb hb2 hcell hfroz hsz)) | (go_at_call 35; (refine (HP.out.upto H2.out _ n HN.out.1 HN.out.2).mono ?_); (rintro r w3 ⟨rfl, hP⟩); obtain ⟨hM6, z0, z1, z2, z3, z4, z5⟩ := hP.cells; have HF := Aside0.mk hP; clear hP))
            go_region_held3 (fun w' => w'.cell? ⟨gM, 0, none⟩ = some (.slice A L.length c) ∧ w'.cell? ⟨gM, 1, none⟩ = some (.int .i64 (s.up n 5).1.t) ∧ w'.cell? ⟨gM, 2, none⟩ = some (.int .i64 (s.up n 5).1.e)) (first | exact HF.out.held (below_step (by repeat (first | exact Below.refl _ _ | apply below_alloc | apply pw_below_drewN | apply below_drew1 | (refine Below.setCell ?_ (by simp) _))) HD.out) | exact HF.out.held (by repeat (first | exact Below.refl _ _ | apply below_alloc | apply pw_below_drewN | apply below_drew1 | (refine Below.setCell ?_ (by simp) _)))) (first | (go_at_call 41; (refine (HF.out.err (by repeat (first | exact Below.refl _ _ | apply below_alloc | apply pw_below_drewN | apply below_drew1 | (refine Below.setCell ?_ (by simp) _)))).mono ?_); rintro r w8 ⟨rfl, hw⟩; obtain rfl := hw.symm) | (go_at_call 42; (refine (HF.out.at_ (by repeat (first | exact Below.refl _ _ | apply below_alloc | apply pw_below_drewN | apply below_drew1 | (refine Below.setCell ?_ (by simp) _)))).mono ?_); rintro r w8 ⟨rfl, hw⟩; obtain rfl := hw.symm) | (go_at_call 43; (refine (HF.out.done (by repeat (first | exact Below.refl _ _ | apply below_alloc | apply pw_below_drewN | apply below_drew1 | (refine Below.setCell ?_ (by simp) _)))).mono ?_); rintro r w8 ⟨rfl, hw⟩; obtain rfl := hw.symm) | (go_at_call 44; (refine (HF.out.rDone).mono ?_); rintro r w8 ⟨rfl, hb⟩; have HD := Aside0.mk hb; clear hb))
            go_wp2
            go_roundg (40 - (k + 1))
            case measure => have := HK.out; omega
            case rel => exact ⟨k + 1, _, by push_cast; rfl, by omega, ⟨rfl⟩, ⟨HF.out.below (below_step (by repeat (first | exact Below.refl _ _ | apply below_alloc | apply pw_below_drewN | apply below_drew1 | (refine Below.setCell ?_ (by simp) _))) HD.out)⟩⟩
          · skip
            by_cases k2 : kd = 2
            · have t2 : (kd == 2) = true := by simpa using k2
              have t0 : (kd == 0) = false := by simpa using k0
              have t1 : (kd == 1) = false := by simpa using k1
              clear k0 k1 k2
              go_wp2_with (first | (go_at_call 34; (refine (HP.out.rUp (by repeat (first | exact Below.refl _ _ | apply below_alloc | apply pw_below_drewN | apply below_drew1 | (refine Below.setCell ?_ (by simp) _))) n 6 HN.out.1 HN.out.2).mono ?_); (rintro r w2 ⟨rfl, hb⟩); obtain ⟨hcell, hfroz⟩ := bcell hb; (have q1 : w2.cell? ⟨wr.heap.size, 1, none⟩ = some (.int .i64 n) := (by rw [hcell _ _ (by simp)]; simp)); (have hsz := hb.size; simp at hsz); (have hb2 : Below wr.heap.size wr w2 := below_step (below_alloc (Below.refl _ _) _) hb); (obtain ⟨hM5, y0, y1, y2, y3, y4, y5⟩ := (HP.out.below hb2).cells); (have hM3 : ¬ w2.heap.size = gM := (by omega)); have hM7 : wr.heap.size < w2.heap.size := (by omega); (have hM4 : ¬ w2.heap.size = wr.heap.size := (by omega)); have H2 := Aside0.mk hb2; (clear hb hb2 hcell hfroz hsz)) | (go_at_call 36; (refine (HP.out.some_ H2.out _ n HN.out.1 HN.out.2).mono ?_); (rintro r w3 ⟨rfl, hP⟩); obtain ⟨hM6, z0, z1, z2, z3, z4, z5⟩ := hP.cells; have HF := Aside0.mk hP; clear hP))
              go_region_held3 (fun w' => w'.cell? ⟨gM, 0, none⟩ = some (.slice A L.length c) ∧ w'.cell? ⟨gM, 1, none⟩ = some (.int .i64 (s.up n 6).1.t) ∧ w'.cell? ⟨gM, 2, none⟩ = some (.int .i64 (s.up n 6).1.e)) (first | exact HF.out.held (below_step (by repeat (first | exact Below.refl _ _ | apply below_alloc | apply pw_below_drewN | apply below_drew1 | (refine Below.setCell ?_ (by simp) _))) HD.out) | exact HF.out.held (by repeat (first | exact Below.refl _ _ | apply below_alloc | apply pw_below_drewN | apply below_drew1 | (refine Below.setCell ?_ (by simp) _)))) (first | (go_at_call 41; (refine (HF.out.err (by repeat (first | exact Below.refl _ _ | apply below_alloc | apply pw_below_drewN | apply below_drew1 | (refine Below.setCell ?_ (by simp) _)))).mono ?_); rintro r w8 ⟨rfl, hw⟩; obtain rfl := hw.symm) | (go_at_call 42; (refine (HF.out.at_ (by repeat (first | exact Below.refl _ _ | apply below_alloc | apply pw_below_drewN | apply below_drew1 | (refine Below.setCell ?_ (by simp) _)))).mono ?_); rintro r w8 ⟨rfl, hw⟩; obtain rfl := hw.symm) | (go_at_call 43; (refine (HF.out.done (by repeat (first | exact Below.refl _ _ | apply below_alloc | apply pw_below_drewN | apply below_drew1 | (refine Below.setCell ?_ (by simp) _)))).mono ?_); rintro r w8 ⟨rfl, hw⟩; obtain rfl := hw.symm) | (go_at_call 44; (refine (HF.out.rDone).mono ?_); rintro r w8 ⟨rfl, hb⟩; have HD := Aside0.mk hb; clear hb))
              go_wp2
              go_roundg (40 - (k + 1))
              case measure => have := HK.out; omega
              case rel => exact ⟨k + 1, _, by push_cast; rfl, by omega, ⟨rfl⟩, ⟨HF.out.below (below_step (by repeat (first | exact Below.refl _ _ | apply below_alloc | apply pw_below_drewN | apply below_drew1 | (refine Below.setCell ?_ (by simp) _))) HD.out)⟩⟩
            · skip
              by_cases k3 : kd = 3
              · have t3 : (kd == 3) = true := by simpa using k3
                have t0 : (kd == 0) = false := by simpa using k0
                have t1 : (kd == 1) = false := by simpa using k1
                have t2 : (kd == 2) = false := by simpa using k2
                clear k0 k1 k2 k3
                go_wp2_with (first | (go_at_call 37; (refine (HP.out.rTake (by repeat (first | exact Below.refl _ _ | apply below_alloc | apply pw_below_drewN | apply below_drew1 | (refine Below.setCell ?_ (by simp) _))) n).mono ?_); (rintro r w2 ⟨A2, c2, rfl, hR, hb⟩); obtain ⟨hcell, hfroz⟩ := bcell hb; (have q1 : w2.cell? ⟨wr.heap.size, 1, none⟩ = some (.int .i64 n) := (by rw [hcell _ _ (by simp)]; simp)); (have hsz := hb.size; simp at hsz); (have hb2 : Below wr.heap.size wr w2 := below_step (below_alloc (Below.refl _ _) _) hb); (obtain ⟨hM5, y0, y1, y2, y3, y4, y5⟩ := (HP.out.below hb2).cells); (have hM3 : ¬ w2.heap.size = gM := (by omega)); have hM7 : wr.heap.size < w2.heap.size := (by omega); (have hM4 : ¬ w2.heap.size = wr.heap.size := (by omega)); have H2 := Aside0.mk hb2; have HV := Aside0.mk hR; have HS := Aside0.mk (show wr.heap.size ≤ (wr.alloc (.cells #[.int .i64 kd, .int .i64 n] 59)).heap.size from (by simp)); clear hR; (clear hb hb2 hcell hfroz hsz)) | (go_at_call 38; (refine (HP.out.take_ H2.out _ n HV.out HS.out).mono ?_); (rintro r w3 ⟨A3, c3, rfl, hC3, hP, hR3⟩); obtain ⟨hM6, z0, z1, z2, z3, z4, z5⟩ := hP.cells; have HF := Aside0.mk hP; (obtain ⟨A4, c4, hv4, -, hC4⟩ := Kd.R_reads hR3); injection hv4 with hv4 _ hv5; subst hv4; subst hv5; (have HSM := Aside0.mk (fun cc => rSame_eq A3 A2 c3 cc (s.take n).2 w3 hC3 hC4 (RS.take_in8 HP.out.rd.2 n))); (clear hR3 hC3 hC4); clear hP) | (go_at_call 25; (refine (HSM.out _).mono ?_); rintro r w5 ⟨rfl, hw⟩; obtain rfl := hw.symm))
                go_region_held3 (fun w' => w'.cell? ⟨gM, 0, none⟩ = some (.slice A L.length c) ∧ w'.cell? ⟨gM, 1, none⟩ = some (.int .i64 (s.take n).1.t) ∧ w'.cell? ⟨gM, 2, none⟩ = some (.int .i64 (s.take n).1.e)) (first | exact HF.out.held (below_step (by repeat (first | exact Below.refl _ _ | apply below_alloc | apply pw_below_drewN | apply below_drew1 | (refine Below.setCell ?_ (by simp) _))) HD.out) | exact HF.out.held (by repeat (first | exact Below.refl _ _ | apply below_alloc | apply pw_below_drewN | apply below_drew1 | (refine Below.setCell ?_ (by simp) _)))) (first | (go_at_call 41; (refine (HF.out.err (by repeat (first | exact Below.refl _ _ | apply below_alloc | apply pw_below_drewN | apply below_drew1 | (refine Below.setCell ?_ (by simp) _)))).mono ?_); rintro r w8 ⟨rfl, hw⟩; obtain rfl := hw.symm) | (go_at_call 42; (refine (HF.out.at_ (by repeat (first | exact Below.refl _ _ | apply below_alloc | apply pw_below_drewN | apply below_drew1 | (refine Below.setCell ?_ (by simp) _)))).mono ?_); rintro r w8 ⟨rfl, hw⟩; obtain rfl := hw.symm) | (go_at_call 43; (refine (HF.out.done (by repeat (first | exact Below.refl _ _ | apply below_alloc | apply pw_below_drewN | apply below_drew1 | (refine Below.setCell ?_ (by simp) _)))).mono ?_); rintro r w8 ⟨rfl, hw⟩; obtain rfl := hw.symm) | (go_at_call 44; (refine (HF.out.rDone).mono ?_); rintro r w8 ⟨rfl, hb⟩; have HD := Aside0.mk hb; clear hb))
                go_wp2
                go_roundg (40 - (k + 1))
                case measure => have := HK.out; omega
                case rel => exact ⟨k + 1, _, by push_cast; rfl, by omega, ⟨rfl⟩, ⟨HF.out.below (below_step (by repeat (first | exact Below.refl _ _ | apply below_alloc | apply pw_below_drewN | apply below_drew1 | (refine Below.setCell ?_ (by simp) _))) HD.out)⟩⟩
              · skip
                by_cases k4 : kd = 4
                · have t4 : (kd == 4) = true := by simpa using k4
                  have t0 : (kd == 0) = false := by simpa using k0
                  have t1 : (kd == 1) = false := by simpa using k1
                  have t2 : (kd == 2) = false := by simpa using k2
                  have t3 : (kd == 3) = false := by simpa using k3
                  clear k0 k1 k2 k3 k4
                  go_wp2_with (first | (go_at_call 39; (refine (HP.out.fail1 (by repeat (first | exact Below.refl _ _ | apply below_alloc | apply pw_below_drewN | apply below_drew1 | (refine Below.setCell ?_ (by simp) _))) n).mono ?_); rintro r w2 ⟨rfl, hr, hg⟩; have q1 : w2.cell? ⟨wr.heap.size, 1, none⟩ = some (.int .i64 n) := (cell_grown hg (by simp) (by have := HP.out.rd.lt; simp; omega)); obtain ⟨hM5, y0, y1, y2, y3, y4, y5⟩ := HP.out.cellsF (by repeat (first | exact Below.refl _ _ | apply below_alloc | apply pw_below_drewN | apply below_drew1 | (refine Below.setCell ?_ (by simp) _))) hg (Below.refl _ _); have H2 := Aside0.mk (And.intro hr hg); clear hr hg) | (go_at_call 40; (refine (HP.out.rFail n).mono ?_); rintro r w3 ⟨rfl, hb⟩; have HF := Aside0.mk (HP.out.afterFail (by repeat (first | exact Below.refl _ _ | apply below_alloc | apply pw_below_drewN | apply below_drew1 | (refine Below.setCell ?_ (by simp) _))) H2.out.1 H2.out.2 hb); obtain ⟨hM6, z0, z1, z2, z3, z4, z5⟩ := HP.out.cellsF (by repeat (first | exact Below.refl _ _ | apply below_alloc | apply pw_below_drewN | apply below_drew1 | (refine Below.setCell ?_ (by simp) _))) H2.out.2 hb; clear hb))
                  go_region_held3 (fun w' => w'.cell? ⟨gM, 0, none⟩ = some (.slice A L.length c) ∧ w'.cell? ⟨gM, 1, none⟩ = some (.int .i64 (s.fail n).t) ∧ w'.cell? ⟨gM, 2, none⟩ = some (.int .i64 (s.fail n).e)) (first | exact HF.out.held (below_step (by repeat (first | exact Below.refl _ _ | apply below_alloc | apply pw_below_drewN | apply below_drew1 | (refine Below.setCell ?_ (by simp) _))) HD.out) | exact HF.out.held (by repeat (first | exact Below.refl _ _ | apply below_alloc | apply pw_below_drewN | apply below_drew1 | (refine Below.setCell ?_ (by simp) _)))) (first | (go_at_call 41; (refine (HF.out.err (by repeat (first | exact Below.refl _ _ | apply below_alloc | apply pw_below_drewN | apply below_drew1 | (refine Below.setCell ?_ (by simp) _)))).mono ?_); rintro r w8 ⟨rfl, hw⟩; obtain rfl := hw.symm) | (go_at_call 42; (refine (HF.out.at_ (by repeat (first | exact Below.refl _ _ | apply below_alloc | apply pw_below_drewN | apply below_drew1 | (refine Below.setCell ?_ (by simp) _)))).mono ?_); rintro r w8 ⟨rfl, hw⟩; obtain rfl := hw.symm) | (go_at_call 43; (refine (HF.out.done (by repeat (first | exact Below.refl _ _ | apply below_alloc | apply pw_below_drewN | apply below_drew1 | (refine Below.setCell ?_ (by simp) _)))).mono ?_); rintro r w8 ⟨rfl, hw⟩; obtain rfl := hw.symm) | (go_at_call 44; (refine (HF.out.rDone).mono ?_); rintro r w8 ⟨rfl, hb⟩; have HD := Aside0.mk hb; clear hb))
                  go_wp2
                  go_roundg (40 - (k + 1))
                  case measure => have := HK.out; omega
                  case rel => exact ⟨k + 1, _, by push_cast; rfl, by omega, ⟨rfl⟩, ⟨HF.out.below (below_step (by repeat (first | exact Below.refl _ _ | apply below_alloc | apply pw_below_drewN | apply below_drew1 | (refine Below.setCell ?_ (by simp) _))) HD.out)⟩⟩
                · skip
                  have t0 : (kd == 0) = false := by simpa using k0
                  have t1 : (kd == 1) = false := by simpa using k1
                  have t2 : (kd == 2) = false := by simpa using k2
                  have t3 : (kd == 3) = false := by simpa using k3
                  have t4 : (kd == 4) = false := by simpa using k4
                  clear k0 k1 k2 k3 k4
                  have HF := Aside0.mk (HP.out.below (below_alloc (Below.refl _ _) (.cells #[.int .i64 kd, .int .i64 n] 59)))
                  obtain ⟨hM6, z0, z1, z2, z3, z4, z5⟩ := HF.out.cells
                  go_wp2
                  go_region_held3 (fun w' => w'.cell? ⟨gM, 0, none⟩ = some (.slice A L.length c) ∧ w'.cell? ⟨gM, 1, none⟩ = some (.int .i64 s.t) ∧ w'.cell? ⟨gM, 2, none⟩ = some (.int .i64 s.e)) (first | exact HF.out.held (below_step (by repeat (first | exact Below.refl _ _ | apply below_alloc | apply pw_below_drewN | apply below_drew1 | (refine Below.setCell ?_ (by simp) _))) HD.out) | exact HF.out.held (by repeat (first | exact Below.refl _ _ | apply below_alloc | apply pw_below_drewN | apply below_drew1 | (refine Below.setCell ?_ (by simp) _)))) (first | (go_at_call 41; (refine (HF.out.err (by repeat (first | exact Below.refl _ _ | apply below_alloc | apply pw_below_drewN | apply below_drew1 | (refine Below.setCell ?_ (by simp) _)))).mono ?_); rintro r w8 ⟨rfl, hw⟩; obtain rfl := hw.symm) | (go_at_call 42; (refine (HF.out.at_ (by repeat (first | exact Below.refl _ _ | apply below_alloc | apply pw_below_drewN | apply below_drew1 | (refine Below.setCell ?_ (by simp) _)))).mono ?_); rintro r w8 ⟨rfl, hw⟩; obtain rfl := hw.symm) | (go_at_call 43; (refine (HF.out.done (by repeat (first | exact Below.refl _ _ | apply below_alloc | apply pw_below_drewN | apply below_drew1 | (refine Below.setCell ?_ (by simp) _)))).mono ?_); rintro r w8 ⟨rfl, hw⟩; obtain rfl := hw.symm) | (go_at_call 44; (refine (HF.out.rDone).mono ?_); rintro r w8 ⟨rfl, hb⟩; have HD := Aside0.mk hb; clear hb))
                  go_wp2
                  go_roundg (40 - (k + 1))
                  case measure => have := HK.out; omega
                  case rel => exact ⟨k + 1, _, by push_cast; rfl, by omega, ⟨rfl⟩, ⟨HF.out.below (below_step (by repeat (first | exact Below.refl _ _ | apply below_alloc | apply pw_below_drewN | apply below_drew1 | (refine Below.setCell ?_ (by simp) _))) HD.out)⟩⟩
      · have hd2 : decide ((k : Int) < 40) = false := decide_eq_false (by omega)
        clear HA HQ
        go_wp2_with (first | (go_at_call 15; refine (known_any _).mono ?_; rintro r w9 ⟨rfl, hb⟩; have HX := Aside0.mk hb; clear hb))
        go_ret
        exact ⟨rfl, below_then HP.out.bel HP.out.bel.size HX.out⟩
    · have hd1 : decide (k < acts.length) = false := decide_eq_false h1
      clear HA HQ
      go_wp2_with (first | (go_at_call 15; refine (known_any _).mono ?_; rintro r w9 ⟨rfl, hb⟩; have HX := Aside0.mk hb; clear hb))
      go_ret
      exact ⟨rfl, below_then HP.out.bel HP.out.bel.size HX.out⟩
theorem own_NumPlays : ownKnob Try.prog.godebug = none := by kernel_rfl
theorem laidOut_NumPlays : laidOutB Try.prog = true := by kernel_rfl
set_option maxRecDepth 100000 in
theorem lifted_NumPlays (os : Os) (started : os.Started) (H : Type) (enc : TypeId × Value → H) :
    ReturnsInHanded {} Try.checked os 8 .any (Rows.numPlaysSpec.pre6 enc Try.prog Try.f8 Rows.numPlaysRow.domain false) (Rows.numPlaysSpec.post enc Try.prog Try.f8 false true false false) := by
  refine returnsInHanded_of_change (C := Try.checked) own_NumPlays started (by kernel_rfl) Try.func8
    (ChangeSpec.witness6 (enc := enc) (C := Try.checked) false ⟨#[], #[.slice none 0 0, .slice none 0 0], []⟩ 8 (by kernel_rfl) (by kernel_rfl) (by kernel_rfl) (by kernel_rfl)) ?_
  intro W base args ds gs before hval0 hW hcnd _
  have hval : ∀ (j : Nat) t v, Try.f8.params[j]? = some t → args[j]? = some v → Value.okWide Try.prog W .any base t v := hval0
  have hW' := hW
  obtain ⟨p, q, hA0, hV, rfl, hfz, hnd⟩ := hW
  have hA : DataW.TrodAll enc Try.prog W 0 (fun _ => true) true Try.f8.params.toList args.toList ds p := hA0
  rw [Try.params8] at hA hval
  obtain ⟨v0, vs0, d0, ds0, p0, q0, hargs, rfl, rfl, h0, r0⟩ := trodAll_cons hA
  obtain ⟨v1, vs1, d1, ds1, p1, q1, rfl, rfl, rfl, h1, r1⟩ := trodAll_cons r0
  obtain ⟨rfl, rfl, rfl⟩ := trodAll_nil r1
  obtain rfl : args = #[v0, v1] := by cases args; simp_all
  obtain ⟨rfl, rfl⟩ := trodVars_none hV
  obtain ⟨a0, len0, cap0, rfl⟩ := okWide_slice Try.underlying29 (hval 0 29 v0 rfl rfl)
  have k0 := h0
  have lt0 : ∀ x ∈ p0, x.block < W.heap.size := by obtain ⟨m, hm⟩ := k0; exact DataW.trod_lt m _ _ _ hm
  obtain ⟨l0, rfl, hC0, hc0, hq0⟩ := open_sl (Opn.slice (d := Kd.int .u8) Try.underlying29 (by kernel_rfl) (Opn.int Try.underlying5)) h0
  obtain ⟨a1, len1, cap1, rfl⟩ := okWide_slice Try.underlying53 (hval 1 53 v1 rfl rfl)
  have k1 := h1
  have lt1 : ∀ x ∈ p1, x.block < W.heap.size := by obtain ⟨m, hm⟩ := k1; exact DataW.trod_lt m _ _ _ hm
  obtain ⟨l1, rfl, hC1, hc1, hq1⟩ := open_sl (Opn.slice (d := Kd.pair (Kd.int .i64) (Kd.int .i64)) Try.underlying53 (by kernel_rfl) (fun {H} => @opn_Act H)) h1
  refine (walk_NumPlays a0 cap0 l0 a1 cap1 l1 W hC0 hc0 hq0 hC1 hc1 hq1).mono fun e W' ⟨he, bel⟩ => ?_
  subst he
  exact ⟨_, rfl, _, _, _, [], _, [], hW', trodAll_mk1 (shut_bool Try.underlying4 _), (trodAll_cons_mk (Below.trod laidOut_NumPlays (by kernel_rfl) (of_decide_eq_true (by kernel_rfl)) k0 bel lt0) (trodAll_cons_mk (Below.trod laidOut_NumPlays (by kernel_rfl) (of_decide_eq_true (by kernel_rfl)) k1 bel lt1) trodAll_mk0)), rfl, bel.frame _, fun h => by cases h⟩
/-- The row. -/
theorem NumPlays_holds : Rows.NumPlaysSaid :=
  OpenClaim.holds_of_wide 8 Try.f8 rfl rfl rfl rfl rfl rfl rfl ⟨rfl, rfl, rfl, rfl, rfl⟩ rfl rfl rfl rfl rfl (by kernel_rfl) Try.func8 (by kernel_rfl)
    (of_decide_eq_true (by kernel_rfl)) (by unfold Func.isWrapper; first | (rw [if_pos (by decide +kernel)]; kernel_rfl) | (rw [if_neg (by decide +kernel)]; exact ⟨rfl, rfl⟩))
    (fun os started H enc _ => lifted_NumPlays os started H enc)
#print axioms NumPlays_holds
end Go.Proofs.Ytjomlpogdemgpaa
