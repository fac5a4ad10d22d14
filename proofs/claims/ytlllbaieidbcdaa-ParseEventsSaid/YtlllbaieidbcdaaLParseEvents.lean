/- ParseEvents holds: the events of any bytes. No condition. -/
import Derived.Test.YtlllbaieidbcdaaRows
import Derived.Test.YtlllbaieidbcdaaPaV
import Derived.Test.YtlllbaieidbcdaaOpn
import Derived.ProofKit
import Derived.OpenShut
namespace Go.Proofs.Ytlllbaieidbcdaa
open Go.ChangeShapes Go.WideShapes Go.ChangeAt Go.RowKit Go.Proofs.YtlllbaieidbcdaaW.PrintWords Go.Proofs.YtlllbaieidbcdaaW.PrintLast Go.Proofs.YtlllbaieidbcdaaW.PrintMore Go.Proofs.Ytlllbaieidbcdaa.PParseEvents Go.Proofs.Ytlllbaieidbcdaa.Str
set_option linter.unusedVariables false
set_option linter.unusedSimpArgs false
abbrev L5 : List Int := [27, 91, 49, 50, 59]
theorem em_start (w : World) : EM w ((w.alloc (.cells #[.int .u8 0, .int .u8 0, .int .u8 0, .int .i64 0, .int .i64 0, .slice none 0 0] 28)).alloc (.cells #[.int .i64 0, .slice none 0 0, .slice none 0 0] 31)) (w.heap.size + 1) ⟨0, [], []⟩ ⟨0, [], []⟩ (.slice none 0 0) (.slice none 0 0) (.slice none 0 0) := by
  refine ⟨⟨⟨below_alloc (below_alloc (Below.refl _ _) _) _, Nat.le_refl _, by simp, 0, 0, 0, blk_alloc (blk_new _ _) _, rfl⟩, Kd.R_nil _ _ _ _ _⟩, ?_, RD.nil _ _ _, RD.nil _ _ _, by rw [alloc_size1, alloc_size1]; omega, fun k hk => by simp [Value.ownBlock] at hk⟩
  have := blk_new (w.alloc (.cells #[.int .u8 0, .int .u8 0, .int .u8 0, .int .i64 0, .int .i64 0, .slice none 0 0] 28)) (.cells #[.int .i64 0, .slice none 0 0, .slice none 0 0] 31)
  rwa [alloc_size1] at this
set_option maxRecDepth 100000 in
set_option maxHeartbeats 16000000 in
theorem walk_ParseEvents (A : Option Addr) (c : Nat) (l : List (List Int)) (w : World) (hC : Kd.C (Kd.slice 5 (Kd.int .u8)) w A l.length l) (hc : l.length ≤ c) (hq : ∀ y ∈ l, ∀ x ∈ y, (Lit.int .u8 x).wf = true) :
    Calls Try.prog 3 #[.slice A l.length c] w fun e w' => e = .returned (.bool true) ∧ Below w.heap.size w w' := by
  have HC := Aside0.mk hC
  have HI := Aside0.mk (show ∀ y ∈ l, In8u y from fun y hy x hx => by have := bounds_u8 (hq y hy x hx); omega)
  have kc := fun (w : World) (C : Array Value) (n c : Nat) => Lib.run_convert_bytes_const (P := Try.prog) w 29 5 C n c Try.underlying29 Try.underlying5
  clear hC hc hq
  go_enter Try.func3, Try.ntmps3
  go_wp2
  go_loopg [5] (21 : Nat) (fun kq v5 w' => ∃ (i : Nat) (p : PP) (nv vn vh : Value) (B : Nat), v5 = .int .i64 i ∧ Aside0 (kq + i = 21 ∧ i ≤ l.length ∧ i ≤ 20) ∧ Aside0 (p.ok (10 * i)) ∧ Aside0 (EM w w' B p p nv vn vh))
  case atStart => exact ⟨0, ⟨0, [], []⟩, .slice none 0 0, .slice none 0 0, .slice none 0 0, w.heap.size + 1, rfl, ⟨by omega, by omega, by omega⟩, ⟨pp0_ok⟩, ⟨em_start w⟩⟩
  case round =>
    obtain ⟨i, p, nv, vn, vh, B, rfl, HK, HP, HE⟩ := hrel
    obtain ⟨An, cn, rfl, -, -⟩ := HE.out.rn
    obtain ⟨Ah, ch, rfl, -, -⟩ := HE.out.rh
    obtain ⟨hd0, hd1, hd2⟩ := HE.out.cells
    by_cases hT : i < l.length ∧ i < 20
    · have hT1 : decide ((i : Int) < (l.length : Int)) = true := decide_eq_true (by omega)
      have hT2 : decide ((i : Int) < 20) = true := decide_eq_true (by omega)
      obtain ⟨ad, Ai, ci, rfl, hcell0, hci, hCi⟩ := at_L6 HC.out (i : Int) (by omega) (by omega)
      rw [Int.toNat_natCast] at hcell0
      have hcell := cell_kept hcell0 (Kept.of_below HE.out.pw.st.hb (fun _ => False)) id
      have h8y : In8u (rd_L6 l (i : Int)) := HI.out _ (by simp [rd_L6, List.getD_eq_getElem?_getD, hT.1])
      obtain ⟨y, hy⟩ : ∃ y, rd_L6 l (i : Int) = y := ⟨_, rfl⟩
      rw [hy] at hcell hci hCi h8y
      clear hcell0 hy
      obtain ⟨n1, hn1⟩ : ∃ n1, n1 = min y.length 10 := ⟨_, rfl⟩
      have hm1 : (if (10 : Int) < (y.length : Int) then (10 : Int) else (y.length : Int)) = (n1 : Int) := by split <;> omega
      obtain ⟨hcut, hread, hlen⟩ := cut_take (P := Try.prog) (Kd.int .u8) 29 5 .i64 Try.underlying29 Str.info5 Ai ci y (n1 : Int) (by omega) (by omega) hci
      simp only [Int.toNat_natCast] at hcut hread hlen
      have hCT := hread w hCi
      have h8T : In8u (y.take n1) := fun x hx => h8y x (List.mem_of_mem_take hx)
      have hTl : (y.take n1).length ≤ 10 := by rw [List.length_take]; omega
      obtain ⟨T, hTe⟩ : ∃ T, y.take n1 = T := ⟨_, rfl⟩
      rw [hTe] at hcut hCT hlen h8T hTl
      obtain ⟨⟨q, Ev⟩, hf⟩ : ∃ r, feedV p T = r := ⟨_, rfl⟩
      have hqok := feed_ok T HP.out h8T
      have hel := feed_len T HP.out h8T
      have hes := feed_small T HP.out h8T
      rw [hf] at hqok hel hes
      dsimp only at hqok hel hes
      obtain ⟨rq, hrq⟩ : ∃ r, restV q = r := ⟨_, rfl⟩
      have HF := Aside0.mk hf
      have HT := Aside0.mk (And.intro hCT (And.intro h8T (And.intro hTl (show 10 * i + T.length ≤ 10000 by have := HK.out; omega))))
      have HQ := Aside0.mk (And.intro (hqok.mono (show 10 * i + T.length ≤ 10 * (i + 1) by omega)) (And.intro hes (And.intro (show Ev.length ≤ 1000000 by omega) hrq)))
      have HQN := Aside0.mk (show q.n.length ≤ 1000000 by have := hqok.nl; have := HK.out; omega)
      have HPN := Aside0.mk (show p.n.length ≤ 1000000 by have := HP.out.nl; have := HK.out; omega)
      clear hCi hread hCT h8T hTl hTe hf hqok hel hes hrq h8y hn1 hlen hci
      go_wp2
      go_quiet (fail)
      have HE0 := Aside0.mk (HE.out.below (pw_below_drewN (Below.refl _ _) nq))
      go_wp2_with (first | (go_at_call 6; go_must (refine (EM_rfeed HE0.out (10 * i) Ai ci T HP.out HT.out.2.2.2 HT.out.1 HT.out.2.1 HF.out).mono ?_); rintro e w1 ⟨An1, cn1, Ah1, ch1, Ao1, co1, rfl, hn1, hh1, ho1, hE1, hb1⟩; have H1 := Aside0.mk (And.intro hn1 (And.intro hh1 (And.intro ho1 hE1))); clear hn1 hh1 ho1 hE1 hb1) | ((with_reducible refine gate_ (.store 31 (.tmp 4) (.tmp 39)) rfl ?_); go_must (refine step_put (.tmp 4) (.tmp 39) rfl rfl rfl q.st _ _ rfl rfl (H1.out.2.2.2.below (below_alloc (Below.refl _ _) (.cells #[.int .i64 q.st, .slice An1 q.n.length cn1, .slice Ah1 q.h.length ch1] 31))).b1 rfl rfl rfl ?_); intro w2 hw; have H2 := Aside0.mk ((H1.out.2.2.2.below (below_alloc (Below.refl _ _) (.cells #[.int .i64 q.st, .slice An1 q.n.length cn1, .slice Ah1 q.h.length ch1] 31))).put (q := q) (B1 := w1.heap.size) (by rw [alloc_size1]; omega) (H1.out.1.below (below_alloc (Below.refl _ _) _)) (H1.out.2.1.below (below_alloc (Below.refl _ _) _))); have F2 := Aside0.mk (F_pOut (g := w.heap.size + 1) (Kd.F_alloc H1.out.2.2.1.2 (.cells #[.int .i64 q.st, .slice An1 q.n.length cn1, .slice Ah1 q.h.length ch1] 31)) (fun k hk => hk.1.2.1) q.st (.slice An1 q.n.length cn1) (.slice Ah1 q.h.length ch1)); rw [← hw] at H2 F2; clear hw) | (go_at_call 7; go_must (refine (PCopy_any H2.out.pw HPN.out).mono ?_); rintro e w3 ⟨rfl, nvc, hPc, hb3, hnc⟩; have H3 := Aside0.mk (And.intro (H2.out.bound.below hb3) (And.intro hPc (And.intro hnc (And.intro (fun k hk => Kd.R_lt H2.out.pw.rn k hk : ∀ k, nv.ownBlock = some k → k < w2.heap.size) H2.out.sz)))); have F3 := Aside0.mk (Kd.F_below (Kd.F_bound F2.out) hb3); obtain ⟨hg0, hg1, hg2⟩ := H3.out.1.cells; clear hPc hb3 hnc))
      refine start_ (n := 29) (S := fun w' => w'.cell? ⟨w.heap.size + 1, 0, none⟩ = some (.int .i64 q.st) ∧ w'.cell? ⟨w.heap.size + 1, 1, none⟩ = some (.slice An1 q.n.length cn1) ∧ w'.cell? ⟨w.heap.size + 1, 2, none⟩ = some (.slice Ah1 q.h.length ch1)) (ds := []) #[false, false, false, false, false, false, false, false, false, false, false, false, false, false, false, false, false, false, false, false, false, false, false, false, false, false, false, false, false] (by kernel_rfl) rfl rfl ⟨hg0, hg1, hg2⟩ (fun hHeld => ?_)
      refine pure_ (i := 0) (N := some 41) (v := ?_) (a' := ?_) #[true, false, false, false, false, false, false, false, false, false, false, false, false, false, false, false, false, false, false, false, false, false, false, false, false, false, false, false, false] rfl rfl (by kernel_rfl) (fun _ _ _ h => h) (Or.inl ⟨by rfl, ?_⟩) ?_ ?_
      rotate_left
      · intro w'
        go_simp
        with_reducible rfl
      rotate_left
      · simp only [Act.put, List.setIfInBounds_toArray, List.set_cons_zero, List.set_cons_succ, i64_w, i32_w]
        rfl
      refine pure_ (i := 1) (N := some 42) (v := ?_) (a' := ?_) #[true, true, false, false, false, false, false, false, false, false, false, false, false, false, false, false, false, false, false, false, false, false, false, false, false, false, false, false, false] rfl rfl (by kernel_rfl) (fun _ _ _ h => h) (Or.inl ⟨by rfl, ?_⟩) ?_ ?_
      rotate_left
      · intro w'
        go_simp
        with_reducible rfl
      rotate_left
      · simp only [Act.put, List.setIfInBounds_toArray, List.set_cons_zero, List.set_cons_succ, i64_w, i32_w]
        rfl
      refine pure_ (i := 2) (N := some 43) (v := ?_) (a' := ?_) #[true, true, true, false, false, false, false, false, false, false, false, false, false, false, false, false, false, false, false, false, false, false, false, false, false, false, false, false, false] rfl rfl (by kernel_rfl) (fun _ _ _ h => h) (Or.inl ⟨by rfl, ?_⟩) ?_ ?_
      rotate_left
      · intro w'
        go_simp
        with_reducible rfl
      rotate_left
      · simp only [Act.put, List.setIfInBounds_toArray, List.set_cons_zero, List.set_cons_succ, i64_w, i32_w]
        rfl
      refine pure_ (i := 3) (N := some 44) (v := ?_) (a' := ?_) #[true, true, true, true, false, false, false, false, false, false, false, false, false, false, false, false, false, false, false, false, false, false, false, false, false, false, false, false, false] rfl rfl (by kernel_rfl) (fun _ _ _ h => h) (Or.inl ⟨by rfl, ?_⟩) ?_ ?_
      rotate_left
      · intro w'
        go_simp
        with_reducible rfl
      rotate_left
      · simp only [Act.put, List.setIfInBounds_toArray, List.set_cons_zero, List.set_cons_succ, i64_w, i32_w]
        rfl
      refine pure_ (i := 4) (N := some 45) (v := ?_) (a' := ?_) #[true, true, true, true, true, false, false, false, false, false, false, false, false, false, false, false, false, false, false, false, false, false, false, false, false, false, false, false, false] rfl rfl (by kernel_rfl) (fun _ _ _ h => h) (Or.inl ⟨by rfl, ?_⟩) ?_ ?_
      rotate_left
      · intro w'
        go_simp
        with_reducible rfl
      rotate_left
      · simp only [Act.put, List.setIfInBounds_toArray, List.set_cons_zero, List.set_cons_succ, i64_w, i32_w]
        rfl
      refine pure_ (i := 6) (N := some 47) (v := ?_) (a' := ?_) #[true, true, true, true, true, false, true, false, false, false, false, false, false, false, false, false, false, false, false, false, false, false, false, false, false, false, false, false, false] rfl rfl (by kernel_rfl) (fun _ _ _ h => h) (Or.inl ⟨by rfl, ?_⟩) ?_ ?_
      rotate_left
      · intro w'
        go_simp
        with_reducible rfl
      rotate_left
      · simp only [Act.put, List.setIfInBounds_toArray, List.set_cons_zero, List.set_cons_succ, i64_w, i32_w]
        rfl
      refine one_ (i := 5) (N := some 46) #[true, true, true, true, true, true, true, false, false, false, false, false, false, false, false, false, false, false, false, false, false, false, false, false, false, false, false, false, false] rfl rfl (by kernel_rfl) (by decide) (fun K hK => ?_)
      refine goes_ Try.func9 (by kernel_rfl) rfl #[.pointer (some ⟨w2.heap.size, 0, none⟩), .slice Ai T.length ci] (by rfl) rfl rfl (by first | (simp only [List.map_toArray, List.map_cons, List.map_nil]; done) | (simp only [List.map_toArray, List.map_cons, List.map_nil]; rfl)) ?_
      with_reducible refine (PC_feed (H3.out.2.1.below (show Below w3.heap.size w3 _ from (by repeat (first | exact Below.refl _ _ | apply below_alloc | apply pw_below_drewN | apply below_drew1 | (refine Below.setCell ?_ (by simp) _))))) (10 * i) Ai ci T HP.out HT.out.2.2.2 (Kd.F_below (Kd.C_F (Kd.heap_int .u8) HT.out.1) (H3.out.2.1.below (show Below w3.heap.size w3 _ from (by repeat (first | exact Below.refl _ _ | apply below_alloc | apply pw_below_drewN | apply below_drew1 | (refine Below.setCell ?_ (by simp) _))))).st.hb) (fun k hk => ⟨by have := H3.out.2.2.2.2; omega, fun h => by have := H3.out.2.2.1 k h.symm; have := H3.out.2.2.2.2; omega⟩) HT.out.2.1 HF.out).mono ?_
      rintro e w5 ⟨A5, c5, nvd, rfl, hc5, hC5, hP5, hK5, hn5, hB5⟩
      refine ⟨_, rfl, ?_⟩
      have H5 := Aside0.mk (And.intro ((H3.out.1.below (show Below w3.heap.size w3 _ from (by repeat (first | exact Below.refl _ _ | apply below_alloc | apply pw_below_drewN | apply below_drew1 | (refine Below.setCell ?_ (by simp) _))))).kept hK5 hB5 (fun k hk => hk.elim (fun h => by omega) (fun h => Nat.le_of_lt (H3.out.2.2.1 k h.symm))) (fun k hk h => by have h1 := H3.out.2.2.2.1 k hk; exact h.elim (fun h => by omega) (fun h => by have h2 := H3.out.2.2.1 k h.symm; omega)) H3.out.2.2.2.2) (And.intro hP5 (And.intro hc5 hC5)))
      have N5 := Aside0.mk (show ∀ k, nvd.ownBlock = some k → w2.heap.size < k from fun k hk => (hn5 k hk).elim (fun h => H3.out.2.2.1 k h) (fun h => Nat.lt_of_le_of_lt (show w2.heap.size ≤ w3.heap.size from H3.out.1.bs) h))
      have F5 := Aside0.mk (Kd.F_kept (Kd.F_below F3.out (show Below w3.heap.size w3 _ from (by repeat (first | exact Below.refl _ _ | apply below_alloc | apply pw_below_drewN | apply below_drew1 | (refine Below.setCell ?_ (by simp) _))))) hK5 (fun k hk h => h.elim (fun h => by have := hk.2; omega) (fun h => by have := H3.out.2.2.1 k h.symm; have := hk.2; omega)))
      clear hP5 hK5 hn5 hB5 hc5 hC5
      refine hK.out _ _ ⟨H5.out.1.cells.1, H5.out.1.cells.2.1, H5.out.1.cells.2.2⟩ (fun hHeld => ?_)
      clear hK K
      refine norm_ (a' := ?_) ?_ ?_
      rotate_left
      · show Act.put _ (some 46) _ = _
        simp only [Act.put, List.setIfInBounds_toArray, List.set_cons_zero, List.set_cons_succ, i64_w, i32_w]
        rfl
      refine one_ (i := 7) (N := some 48) #[true, true, true, true, true, true, true, true, false, false, false, false, false, false, false, false, false, false, false, false, false, false, false, false, false, false, false, false, false] rfl rfl (by kernel_rfl) (by decide) (fun K hK => ?_)
      refine goes_ Try.func8 (by kernel_rfl) rfl #[.slice A5 Ev.length c5, .slice Ao1 Ev.length co1] (by rfl) rfl rfl (by first | (simp only [List.map_toArray, List.map_cons, List.map_nil]; done) | (simp only [List.map_toArray, List.map_cons, List.map_nil]; rfl)) ?_
      with_reducible refine (SameE A5 c5 Ao1 co1 Ev _ H5.out.2.2.2 H5.out.2.2.1 (Kd.F_now F5.out) H1.out.2.2.1.1 HQ.out.2.1 HQ.out.2.2.1).mono ?_
      rintro e w7 ⟨rfl, hb⟩
      refine ⟨_, rfl, ?_⟩
      have H7 := Aside0.mk (And.intro (H5.out.1.below hb) (H5.out.2.1.below hb))
      have F7 := Aside0.mk (Kd.F_below F5.out hb)
      clear hb
      refine hK.out _ _ ⟨H7.out.1.cells.1, H7.out.1.cells.2.1, H7.out.1.cells.2.2⟩ (fun hHeld => ?_)
      clear hK K
      refine norm_ (a' := ?_) ?_ ?_
      rotate_left
      · show Act.put _ (some 48) _ = _
        simp only [Act.put, List.setIfInBounds_toArray, List.set_cons_zero, List.set_cons_succ, i64_w, i32_w]
        rfl
      refine pure_ (i := 8) (N := some 49) (v := ?_) (a' := ?_) #[true, true, true, true, true, true, true, true, true, false, false, false, false, false, false, false, false, false, false, false, false, false, false, false, false, false, false, false, false] rfl rfl (by kernel_rfl) (fun _ _ _ h => h) (Or.inl ⟨by rfl, ?_⟩) ?_ ?_
      rotate_left
      · intro w'
        go_simp
        with_reducible rfl
      rotate_left
      · simp only [Act.put, List.setIfInBounds_toArray, List.set_cons_zero, List.set_cons_succ, i64_w, i32_w]
        rfl
      refine pure_ (i := 9) (N := some 50) (v := ?_) (a' := ?_) #[true, true, true, true, true, true, true, true, true, true, false, false, false, false, false, false, false, false, false, false, false, false, false, false, false, false, false, false, false] rfl rfl (by kernel_rfl) (fun _ _ _ h => h) (Or.inl ⟨by rfl, ?_⟩) ?_ ?_
      rotate_left
      · intro w'
        go_simp
        with_reducible rfl
      rotate_left
      · simp only [Act.put, List.setIfInBounds_toArray, List.set_cons_zero, List.set_cons_succ, i64_w, i32_w]
        rfl
      refine pure_ (i := 10) (N := some 51) (v := ?_) (a' := ?_) #[true, true, true, true, true, true, true, true, true, true, true, false, false, false, false, false, false, false, false, false, false, false, false, false, false, false, false, false, false] rfl rfl (by kernel_rfl) (fun _ _ _ h => h) (Or.inl ⟨by rfl, ?_⟩) ?_ ?_
      rotate_left
      · intro w'
        go_simp
        with_reducible rfl
      rotate_left
      · simp only [Act.put, List.setIfInBounds_toArray, List.set_cons_zero, List.set_cons_succ, i64_w, i32_w]
        rfl
      refine pure_ (i := 11) (N := some 52) (v := ?_) (a' := ?_) #[true, true, true, true, true, true, true, true, true, true, true, true, false, false, false, false, false, false, false, false, false, false, false, false, false, false, false, false, false] rfl rfl (by kernel_rfl) (fun _ _ _ h => h) (Or.inl ⟨by rfl, ?_⟩) ?_ ?_
      rotate_left
      · intro w'
        go_simp
        with_reducible rfl
      rotate_left
      · simp only [Act.put, List.setIfInBounds_toArray, List.set_cons_zero, List.set_cons_succ, i64_w, i32_w]
        rfl
      refine pure_ (i := 13) (N := some 54) (v := ?_) (a' := ?_) #[true, true, true, true, true, true, true, true, true, true, true, true, false, true, false, false, false, false, false, false, false, false, false, false, false, false, false, false, false] rfl rfl (by kernel_rfl) (fun _ _ _ h => h) (Or.inl ⟨by rfl, ?_⟩) ?_ ?_
      rotate_left
      · intro w'
        go_simp
        with_reducible rfl
      rotate_left
      · simp only [Act.put, List.setIfInBounds_toArray, List.set_cons_zero, List.set_cons_succ, i64_w, i32_w]
        rfl
      refine one_ (i := 12) (N := some 53) #[true, true, true, true, true, true, true, true, true, true, true, true, true, true, false, false, false, false, false, false, false, false, false, false, false, false, false, false, false] rfl rfl (by kernel_rfl) (by decide) (fun K hK => ?_)
      refine goes_ Try.func9 (by kernel_rfl) rfl #[.pointer (some ⟨w.heap.size, 0, none⟩), .slice Ai T.length ci] (by rfl) rfl rfl (by first | (simp only [List.map_toArray, List.map_cons, List.map_nil]; done) | (simp only [List.map_toArray, List.map_cons, List.map_nil]; rfl)) ?_
      with_reducible refine (EM_pfeed H7.out.1 (10 * i) Ai ci T HP.out HT.out.2.2.2 HT.out.1 HT.out.2.1 HF.out).mono ?_
      rintro e w12 ⟨A12, c12, nv2, rfl, hc12, hC12, hE12, hK12, hB12, hn12⟩
      refine ⟨_, rfl, ?_⟩
      have N12 := Aside0.mk hn12
      have H12 := Aside0.mk (And.intro hE12 (And.intro (H7.out.2.kept hK12 hB12 (fun h => h.elim (fun h => by have := H3.out.2.2.2.2; omega) (fun h => by have := H3.out.2.2.2.1 _ h.symm; omega)) (fun k hk h => h.elim (fun h => by have := N5.out k hk; have := H3.out.2.2.2.2; omega) (fun h => by have := N5.out k hk; have := H3.out.2.2.2.1 k h.symm; omega))) (And.intro hc12 hC12)))
      have F12 := Aside0.mk (Kd.F_kept F7.out hK12 (fun k hk h => h.elim hk.1.1.1 hk.1.1.2.2))
      clear hn12 hE12 hK12 hB12 hc12 hC12
      refine hK.out _ _ ⟨H12.out.1.cells.1, H12.out.1.cells.2.1, H12.out.1.cells.2.2⟩ (fun hHeld => ?_)
      clear hK K
      refine norm_ (a' := ?_) ?_ ?_
      rotate_left
      · show Act.put _ (some 53) _ = _
        simp only [Act.put, List.setIfInBounds_toArray, List.set_cons_zero, List.set_cons_succ, i64_w, i32_w]
        rfl
      refine one_ (i := 14) (N := some 55) #[true, true, true, true, true, true, true, true, true, true, true, true, true, true, true, false, false, false, false, false, false, false, false, false, false, false, false, false, false] rfl rfl (by kernel_rfl) (by decide) (fun K hK => ?_)
      refine goes_ Try.func8 (by kernel_rfl) rfl #[.slice A12 Ev.length c12, .slice Ao1 Ev.length co1] (by rfl) rfl rfl (by first | (simp only [List.map_toArray, List.map_cons, List.map_nil]; done) | (simp only [List.map_toArray, List.map_cons, List.map_nil]; rfl)) ?_
      with_reducible refine (SameE A12 c12 Ao1 co1 Ev _ H12.out.2.2.2 H12.out.2.2.1 (Kd.F_now F12.out) H1.out.2.2.1.1 HQ.out.2.1 HQ.out.2.2.1).mono ?_
      rintro e w14 ⟨rfl, hb⟩
      refine ⟨_, rfl, ?_⟩
      have H14 := Aside0.mk (And.intro (H12.out.1.below hb) (H12.out.2.1.below hb))
      clear hb
      refine hK.out _ _ ⟨H14.out.1.cells.1, H14.out.1.cells.2.1, H14.out.1.cells.2.2⟩ (fun hHeld => ?_)
      clear hK K
      refine norm_ (a' := ?_) ?_ ?_
      rotate_left
      · show Act.put _ (some 55) _ = _
        simp only [Act.put, List.setIfInBounds_toArray, List.set_cons_zero, List.set_cons_succ, i64_w, i32_w]
        rfl
      refine pure_ (i := 15) (N := some 56) (v := ?_) (a' := ?_) #[true, true, true, true, true, true, true, true, true, true, true, true, true, true, true, true, false, false, false, false, false, false, false, false, false, false, false, false, false] rfl rfl (by kernel_rfl) (fun _ _ _ h => h) (Or.inl ⟨by rfl, ?_⟩) ?_ ?_
      rotate_left
      · intro w'
        go_simp
        with_reducible rfl
      rotate_left
      · simp only [Act.put, List.setIfInBounds_toArray, List.set_cons_zero, List.set_cons_succ, i64_w, i32_w]
        rfl
      refine pure_ (i := 16) (N := some 57) (v := ?_) (a' := ?_) #[true, true, true, true, true, true, true, true, true, true, true, true, true, true, true, true, true, false, false, false, false, false, false, false, false, false, false, false, false] rfl rfl (by kernel_rfl) (fun _ _ _ h => h) (Or.inl ⟨by rfl, ?_⟩) ?_ ?_
      rotate_left
      · intro w'
        go_simp
        with_reducible rfl
      rotate_left
      · simp only [Act.put, List.setIfInBounds_toArray, List.set_cons_zero, List.set_cons_succ, i64_w, i32_w]
        rfl
      refine pure_ (i := 17) (N := some 58) (v := ?_) (a' := ?_) #[true, true, true, true, true, true, true, true, true, true, true, true, true, true, true, true, true, true, false, false, false, false, false, false, false, false, false, false, false] rfl rfl (by kernel_rfl) (fun _ _ _ h => h) (Or.inl ⟨by rfl, ?_⟩) ?_ ?_
      rotate_left
      · intro w'
        go_simp
        with_reducible rfl
      rotate_left
      · simp only [Act.put, List.setIfInBounds_toArray, List.set_cons_zero, List.set_cons_succ, i64_w, i32_w]
        rfl
      refine take_ (i := 19) (N := some 60) (v := ?_) (a' := ?_) #[true, true, true, true, true, true, true, true, true, true, true, true, true, true, true, true, true, true, false, true, false, false, false, false, false, false, false, false, false] rfl rfl (by kernel_rfl) (fun _ _ _ h => h) (Or.inl ⟨by rfl, ?_⟩) hHeld ?_ ?_
      rotate_left
      · rintro w' ⟨s0, s1, s2⟩
        go_simp
        with_reducible rfl
      rotate_left
      · simp only [Act.put, List.setIfInBounds_toArray, List.set_cons_zero, List.set_cons_succ, i64_w, i32_w]
        rfl
      refine one_ (i := 18) (N := some 59) #[true, true, true, true, true, true, true, true, true, true, true, true, true, true, true, true, true, true, true, true, false, false, false, false, false, false, false, false, false] rfl rfl (by kernel_rfl) (by decide) (fun K hK => ?_)
      refine goes_ Try.func10 (by kernel_rfl) rfl #[.pointer (some ⟨w.heap.size, 0, none⟩)] (by rfl) rfl rfl (by first | (simp only [List.map_toArray, List.map_cons, List.map_nil]; done) | (simp only [List.map_toArray, List.map_cons, List.map_nil]; rfl)) ?_
      with_reducible refine (PRest_any H14.out.1.pw HQ.out.2.2.2).mono ?_
      rintro e w18 ⟨rfl, hb⟩
      refine ⟨_, rfl, ?_⟩
      have H18 := Aside0.mk (And.intro (H14.out.1.below hb) (H14.out.2.below hb))
      clear hb
      refine hK.out _ _ ⟨H18.out.1.cells.1, H18.out.1.cells.2.1, H18.out.1.cells.2.2⟩ (fun hHeld => ?_)
      clear hK K
      refine norm_ (a' := ?_) ?_ ?_
      rotate_left
      · show Act.put _ (some 59) _ = _
        simp only [Act.put, List.setIfInBounds_toArray, List.set_cons_zero, List.set_cons_succ, i64_w, i32_w]
        rfl
      refine one_ (i := 20) (N := some 61) #[true, true, true, true, true, true, true, true, true, true, true, true, true, true, true, true, true, true, true, true, true, false, false, false, false, false, false, false, false] rfl rfl (by kernel_rfl) (by decide) (fun K hK => ?_)
      refine goes_ Try.func11 (by kernel_rfl) rfl #[.agg #[.int .i64 q.st, .slice An1 q.n.length cn1, .slice Ah1 q.h.length ch1]] (by rfl) rfl rfl (by first | (simp only [List.map_toArray, List.map_cons, List.map_nil]; done) | (simp only [List.map_toArray, List.map_cons, List.map_nil]; rfl)) ?_
      with_reducible refine (RRest_any _ q (.slice An1 q.n.length cn1) (.slice Ah1 q.h.length ch1) (H18.out.1.rn.mono (fun _ _ => trivial)) (H18.out.1.rh.mono (fun _ _ => trivial)) HQ.out.2.2.2).mono ?_
      rintro e w20 ⟨rfl, hb⟩
      refine ⟨_, rfl, ?_⟩
      have H20 := Aside0.mk (And.intro (H18.out.1.below hb) (H18.out.2.below hb))
      clear hb
      refine hK.out _ _ ⟨H20.out.1.cells.1, H20.out.1.cells.2.1, H20.out.1.cells.2.2⟩ (fun hHeld => ?_)
      clear hK K
      refine norm_ (a' := ?_) ?_ ?_
      rotate_left
      · show Act.put _ (some 61) _ = _
        simp only [Act.put, List.setIfInBounds_toArray, List.set_cons_zero, List.set_cons_succ, i64_w, i32_w]
        rfl
      refine pure_ (i := 21) (N := some 62) (v := ?_) (a' := ?_) #[true, true, true, true, true, true, true, true, true, true, true, true, true, true, true, true, true, true, true, true, true, true, false, false, false, false, false, false, false] rfl rfl (by kernel_rfl) (fun _ _ _ h => h) (Or.inl ⟨by rfl, ?_⟩) ?_ ?_
      rotate_left
      · intro w'
        go_simp
        with_reducible rfl
      rotate_left
      · simp only [Act.put, List.setIfInBounds_toArray, List.set_cons_zero, List.set_cons_succ, i64_w, i32_w]
        rfl
      refine pure_ (i := 22) (N := some 63) (v := ?_) (a' := ?_) #[true, true, true, true, true, true, true, true, true, true, true, true, true, true, true, true, true, true, true, true, true, true, true, false, false, false, false, false, false] rfl rfl (by kernel_rfl) (fun _ _ _ h => h) (Or.inl ⟨by rfl, ?_⟩) ?_ ?_
      rotate_left
      · intro w'
        go_simp
        with_reducible rfl
      rotate_left
      · simp only [Act.put, List.setIfInBounds_toArray, List.set_cons_zero, List.set_cons_succ, i64_w, i32_w]
        rfl
      refine pure_ (i := 23) (N := some 64) (v := ?_) (a' := ?_) #[true, true, true, true, true, true, true, true, true, true, true, true, true, true, true, true, true, true, true, true, true, true, true, true, false, false, false, false, false] rfl rfl (by kernel_rfl) (fun _ _ _ h => h) (Or.inl ⟨by rfl, ?_⟩) ?_ ?_
      rotate_left
      · intro w'
        go_simp
        with_reducible rfl
      rotate_left
      · simp only [Act.put, List.setIfInBounds_toArray, List.set_cons_zero, List.set_cons_succ, i64_w, i32_w]
        rfl
      refine pure_ (i := 24) (N := some 65) (v := ?_) (a' := ?_) #[true, true, true, true, true, true, true, true, true, true, true, true, true, true, true, true, true, true, true, true, true, true, true, true, true, false, false, false, false] rfl rfl (by kernel_rfl) (fun _ _ _ h => h) (Or.inl ⟨by rfl, ?_⟩) ?_ ?_
      rotate_left
      · intro w'
        go_simp
        with_reducible rfl
      rotate_left
      · simp only [Act.put, List.setIfInBounds_toArray, List.set_cons_zero, List.set_cons_succ, i64_w, i32_w]
        rfl
      refine one_ (i := 25) (N := some 66) #[true, true, true, true, true, true, true, true, true, true, true, true, true, true, true, true, true, true, true, true, true, true, true, true, true, true, false, false, false] rfl rfl (by kernel_rfl) (by decide) (fun K hK => ?_)
      refine goes_ Try.func10 (by kernel_rfl) rfl #[.pointer (some ⟨w2.heap.size, 0, none⟩)] (by rfl) rfl rfl (by first | (simp only [List.map_toArray, List.map_cons, List.map_nil]; done) | (simp only [List.map_toArray, List.map_cons, List.map_nil]; rfl)) ?_
      with_reducible refine (PRest_any H20.out.2 HQ.out.2.2.2).mono ?_
      rintro e w25 ⟨rfl, hb⟩
      refine ⟨_, rfl, ?_⟩
      have H25 := Aside0.mk (And.intro (H20.out.1.below hb) (H20.out.2.below hb))
      clear hb
      refine hK.out _ _ ⟨H25.out.1.cells.1, H25.out.1.cells.2.1, H25.out.1.cells.2.2⟩ (fun hHeld => ?_)
      clear hK K
      refine norm_ (a' := ?_) ?_ ?_
      rotate_left
      · show Act.put _ (some 66) _ = _
        simp only [Act.put, List.setIfInBounds_toArray, List.set_cons_zero, List.set_cons_succ, i64_w, i32_w]
        rfl
      refine one_ (i := 26) (N := some 67) #[true, true, true, true, true, true, true, true, true, true, true, true, true, true, true, true, true, true, true, true, true, true, true, true, true, true, true, false, false] rfl rfl (by kernel_rfl) (by decide) (fun K hK => ?_)
      refine goes_ Try.func10 (by kernel_rfl) rfl #[.pointer (some ⟨w.heap.size, 0, none⟩)] (by rfl) rfl rfl (by first | (simp only [List.map_toArray, List.map_cons, List.map_nil]; done) | (simp only [List.map_toArray, List.map_cons, List.map_nil]; rfl)) ?_
      with_reducible refine (PRest_any H25.out.1.pw HQ.out.2.2.2).mono ?_
      rintro e w26 ⟨rfl, hb⟩
      refine ⟨_, rfl, ?_⟩
      have H26 := Aside0.mk (And.intro (H25.out.1.below hb) (H25.out.2.below hb))
      clear hb
      refine hK.out _ _ ⟨H26.out.1.cells.1, H26.out.1.cells.2.1, H26.out.1.cells.2.2⟩ (fun hHeld => ?_)
      clear hK K
      refine norm_ (a' := ?_) ?_ ?_
      rotate_left
      · show Act.put _ (some 67) _ = _
        simp only [Act.put, List.setIfInBounds_toArray, List.set_cons_zero, List.set_cons_succ, i64_w, i32_w]
        rfl
      refine pure_ (i := 27) (N := some 68) (v := ?_) (a' := ?_) #[true, true, true, true, true, true, true, true, true, true, true, true, true, true, true, true, true, true, true, true, true, true, true, true, true, true, true, true, false] rfl rfl (by kernel_rfl) (fun _ _ _ h => h) (Or.inl ⟨by rfl, ?_⟩) ?_ ?_
      rotate_left
      · intro w'
        go_simp
        with_reducible rfl
      rotate_left
      · simp only [Act.put, List.setIfInBounds_toArray, List.set_cons_zero, List.set_cons_succ, i64_w, i32_w]
        rfl
      refine pure_ (i := 28) (N := some 69) (v := ?_) (a' := ?_) #[true, true, true, true, true, true, true, true, true, true, true, true, true, true, true, true, true, true, true, true, true, true, true, true, true, true, true, true, true] rfl rfl (by kernel_rfl) (fun _ _ _ h => h) (Or.inl ⟨by rfl, ?_⟩) ?_ ?_
      rotate_left
      · intro w'
        go_simp
        with_reducible rfl
      rotate_left
      · simp only [Act.put, List.setIfInBounds_toArray, List.set_cons_zero, List.set_cons_succ, i64_w, i32_w]
        rfl
      refine done_ (by kernel_rfl) ?_
      obtain ⟨⟨q5, Ev5⟩, hf5⟩ : ∃ r, feedV q L5 = r := ⟨_, rfl⟩
      have HF5 := Aside0.mk hf5
      clear hf5
      have HFC := Aside0.mk (F_cells w26 L5 5 (5, 6) (by decide))
      have HNE := Aside0.mk (show ∀ k, k = w26.heap.size → k ≠ w2.heap.size ∧ some k ≠ nvd.ownBlock from fun k hk => by
        obtain ⟨_, _, _, hx, -⟩ := H26.out.2.blk
        have h1 := blk_lt hx
        exact ⟨by omega, fun h => by have := Kd.R_lt H26.out.2.rn k h.symm; omega⟩)
      have HNS := Aside0.mk (show ∀ k, nv2.ownBlock = some k → ¬ (k = w2.heap.size ∨ some k = nvd.ownBlock) from fun k hk h => by
        have h4 := H7.out.1.bs
        rcases N12.out k hk with h1 | h1
        · have h2 := H3.out.2.2.2.1 k h1
          rcases h with h | h
          · omega
          · have h3 := N5.out k h.symm; omega
        · rcases h with h | h
          · omega
          · have h3 := Kd.R_lt H7.out.2.rn k h.symm; omega)
      have hrr : (rq != rq) = false := by simp
      all_goals go_wp2_with (first | (go_at_call 9; go_must (refine (PC_feed (H26.out.2.below (below_alloc (Below.refl _ _) _)) (10 * (i + 1)) (some ⟨w26.heap.size, 0, none⟩) 5 L5 HQ.out.1 (by have := HK.out; show 10 * (i + 1) + 5 ≤ 10000; omega) HFC.out HNE.out (fun x hx => by simp at hx; omega) HF5.out).mono ?_); rintro e w30 ⟨A30, c30, nve, rfl, hc30, hC30, hP30, hK30, hn30, hB30⟩; have H30 := Aside0.mk ((H26.out.1.below (below_alloc (Below.refl _ _) (.cells (L5.map (Value.int .u8)).toArray 5 (5, 6)))).kept hK30 hB30 (fun k hk => hk.elim (fun h => by omega) (fun h => Nat.le_of_lt (N5.out k h.symm))) HNS.out H3.out.2.2.2.2); clear hc30 hC30 hP30 hK30 hn30 hB30))
      all_goals go_roundg (gk - 1)
      case measure => have := HK.out; omega
      case rel => exact ⟨i + 1, q, nv2, _, _, _, by go_num, ⟨by have := HK.out; omega, by omega, by omega⟩, ⟨HQ.out.1⟩, H30⟩
    · have HE1 := HE
      have hS := Aside0.mk (flushV_small p.h)
      have hFL := Aside0.mk (flushV_len p.h)
      have HR0 := Aside0.mk (show restV (⟨0, p.n, []⟩ : PP) = true from rfl)
      by_cases hT5 : i < l.length
      · have hT1 : decide ((i : Int) < (l.length : Int)) = true := decide_eq_true (by omega)
        have hT2 : decide ((i : Int) < 20) = false := decide_eq_false (by omega)
        go_wp2_with (first | (go_at_call 12; go_must (refine (RFlush_any wr p (.slice An p.n.length cn) (.slice Ah p.h.length ch) (HE1.out.rn.mono (fun _ _ => trivial)) (HE1.out.rh.mono (fun _ _ => trivial))).mono ?_); rintro e w1 ⟨vh1, Ao1, co1, rfl, hh1, hC1, hco1, hb1⟩; obtain ⟨Ah1, ch1, rfl, -, -⟩ := id hh1; have H1 := Aside0.mk (And.intro (HE1.out.below hb1) (And.intro hh1 (And.intro hco1 hC1))); clear hh1 hC1 hco1 hb1))
        have HN0 := Aside0.mk (blk_new w1 (.cells #[.int .i64 0, .slice An p.n.length cn, .slice Ah1 0 ch1] 31))
        have hg0 := (blk_cell HN0.out 0).trans (rfl : _ = some (Value.int .i64 0))
        have hg1 := (blk_cell HN0.out 1).trans (rfl : _ = some (Value.slice An p.n.length cn))
        have hg2 := (blk_cell HN0.out 2).trans (rfl : _ = some (Value.slice Ah1 0 ch1))
        refine start_ (n := 16) (S := fun w' => w'.cell? ⟨w1.heap.size, 0, none⟩ = some (.int .i64 0) ∧ w'.cell? ⟨w1.heap.size, 1, none⟩ = some (.slice An p.n.length cn) ∧ w'.cell? ⟨w1.heap.size, 2, none⟩ = some (.slice Ah1 0 ch1)) (ds := []) #[false, false, false, false, false, false, false, false, false, false, false, false, false, false, false, false] (by kernel_rfl) rfl rfl ⟨hg0, hg1, hg2⟩ (fun hHeld => ?_)
        refine one_ (i := 0) (N := some 79) #[true, false, false, false, false, false, false, false, false, false, false, false, false, false, false, false] rfl rfl (by kernel_rfl) (by decide) (fun K hK => ?_)
        refine goes_ Try.func13 (by kernel_rfl) rfl #[] (by rfl) rfl rfl (by first | (simp only [List.map_toArray, List.map_cons, List.map_nil]; done) | (simp only [List.map_toArray, List.map_cons, List.map_nil]; rfl)) ?_
        with_reducible refine (known8 _).mono ?_
        rintro e w2 ⟨rfl, hb⟩
        refine ⟨_, rfl, ?_⟩
        have H2 := Aside0.mk (H1.out.1.below (show Below w1.heap.size w1 w2 from below_step (by repeat (first | exact Below.refl _ _ | apply below_alloc | apply pw_below_drewN | apply below_drew1 | (refine Below.setCell ?_ (by simp) _))) hb))
        have F2 := Aside0.mk (Kd.F_below H1.out.2.2.2 (show Below w1.heap.size w1 w2 from below_step (by repeat (first | exact Below.refl _ _ | apply below_alloc | apply pw_below_drewN | apply below_drew1 | (refine Below.setCell ?_ (by simp) _))) hb))
        have N2 := Aside0.mk (blk_below HN0.out (show Below (w1.alloc (.cells #[.int .i64 0, .slice An p.n.length cn, .slice Ah1 0 ch1] 31)).heap.size (w1.alloc (.cells #[.int .i64 0, .slice An p.n.length cn, .slice Ah1 0 ch1] 31)) w2 from below_step (by repeat (first | exact Below.refl _ _ | apply below_alloc | apply pw_below_drewN | apply below_drew1 | (refine Below.setCell ?_ (by simp) _))) hb))
        clear hb
        refine hK.out _ _ ⟨(blk_cell N2.out 0).trans (rfl : _ = some (Value.int .i64 0)), (blk_cell N2.out 1).trans (rfl : _ = some (Value.slice An p.n.length cn)), (blk_cell N2.out 2).trans (rfl : _ = some (Value.slice Ah1 0 ch1))⟩ (fun hHeld => ?_)
        clear hK K
        refine norm_ (a' := ?_) ?_ ?_
        rotate_left
        · show Act.put _ (some 79) _ = _
          simp only [Act.put, List.setIfInBounds_toArray, List.set_cons_zero, List.set_cons_succ, i64_w, i32_w]
          rfl
        refine pure_ (i := 1) (N := some 80) (v := ?_) (a' := ?_) #[true, true, false, false, false, false, false, false, false, false, false, false, false, false, false, false] rfl rfl (by kernel_rfl) (fun _ _ _ h => h) (Or.inl ⟨by rfl, ?_⟩) ?_ ?_
        rotate_left
        · intro w'
          go_simp
          with_reducible rfl
        rotate_left
        · simp only [Act.put, List.setIfInBounds_toArray, List.set_cons_zero, List.set_cons_succ, i64_w, i32_w]
          rfl
        refine pure_ (i := 3) (N := some 82) (v := ?_) (a' := ?_) #[true, true, false, true, false, false, false, false, false, false, false, false, false, false, false, false] rfl rfl (by kernel_rfl) (fun _ _ _ h => h) (Or.inl ⟨by rfl, ?_⟩) ?_ ?_
        rotate_left
        · intro w'
          go_simp
          with_reducible rfl
        rotate_left
        · simp only [Act.put, List.setIfInBounds_toArray, List.set_cons_zero, List.set_cons_succ, i64_w, i32_w]
          rfl
        refine one_ (i := 2) (N := some 81) #[true, true, true, true, false, false, false, false, false, false, false, false, false, false, false, false] rfl rfl (by kernel_rfl) (by decide) (fun K hK => ?_)
        refine goes_ Try.func14 (by kernel_rfl) rfl #[.pointer (some ⟨w.heap.size, 0, none⟩)] (by rfl) rfl rfl (by first | (simp only [List.map_toArray, List.map_cons, List.map_nil]; done) | (simp only [List.map_toArray, List.map_cons, List.map_nil]; rfl)) ?_
        with_reducible refine (PFlush_any H2.out.pw).mono ?_
        rintro e w3 ⟨A3, c3, rfl, hc3, hF3, hP3, hK3⟩
        refine ⟨_, rfl, ?_⟩
        have H3 := Aside0.mk (And.intro hP3 (And.intro (H2.out.rn.kept hK3 (fun k hk h => hk.1.1 h)) (And.intro hc3 (Kd.F_now hF3))))
        have F3 := Aside0.mk (Kd.F_kept F2.out hK3 (fun k hk h => by have := HE1.out.sz; omega))
        have N3 := Aside0.mk (blk_kept N2.out hK3 (fun h => by have := H1.out.1.sz; omega))
        clear hc3 hF3 hP3 hK3
        refine hK.out _ _ ⟨(blk_cell N3.out 0).trans (rfl : _ = some (Value.int .i64 0)), (blk_cell N3.out 1).trans (rfl : _ = some (Value.slice An p.n.length cn)), (blk_cell N3.out 2).trans (rfl : _ = some (Value.slice Ah1 0 ch1))⟩ (fun hHeld => ?_)
        clear hK K
        refine norm_ (a' := ?_) ?_ ?_
        rotate_left
        · show Act.put _ (some 81) _ = _
          simp only [Act.put, List.setIfInBounds_toArray, List.set_cons_zero, List.set_cons_succ, i64_w, i32_w]
          rfl
        refine one_ (i := 4) (N := some 83) #[true, true, true, true, true, false, false, false, false, false, false, false, false, false, false, false] rfl rfl (by kernel_rfl) (by decide) (fun K hK => ?_)
        refine goes_ Try.func8 (by kernel_rfl) rfl #[.slice A3 (flushV p.h).length c3, .slice Ao1 (flushV p.h).length co1] (by rfl) rfl rfl (by first | (simp only [List.map_toArray, List.map_cons, List.map_nil]; done) | (simp only [List.map_toArray, List.map_cons, List.map_nil]; rfl)) ?_
        with_reducible refine (SameE A3 c3 Ao1 co1 (flushV p.h) _ H3.out.2.2.2 H3.out.2.2.1 (Kd.F_now F3.out) H1.out.2.2.1 hS.out (by have := hFL.out; omega)).mono ?_
        rintro e w4 ⟨rfl, hb⟩
        refine ⟨_, rfl, ?_⟩
        have H4 := Aside0.mk (And.intro (H3.out.1.below hb) (H3.out.2.1.below hb))
        have N4 := Aside0.mk (blk_below N3.out hb)
        clear hb
        refine hK.out _ _ ⟨(blk_cell N4.out 0).trans (rfl : _ = some (Value.int .i64 0)), (blk_cell N4.out 1).trans (rfl : _ = some (Value.slice An p.n.length cn)), (blk_cell N4.out 2).trans (rfl : _ = some (Value.slice Ah1 0 ch1))⟩ (fun hHeld => ?_)
        clear hK K
        refine norm_ (a' := ?_) ?_ ?_
        rotate_left
        · show Act.put _ (some 83) _ = _
          simp only [Act.put, List.setIfInBounds_toArray, List.set_cons_zero, List.set_cons_succ, i64_w, i32_w]
          rfl
        refine pure_ (i := 5) (N := some 84) (v := ?_) (a' := ?_) #[true, true, true, true, true, true, false, false, false, false, false, false, false, false, false, false] rfl rfl (by kernel_rfl) (fun _ _ _ h => h) (Or.inl ⟨by rfl, ?_⟩) ?_ ?_
        rotate_left
        · intro w'
          go_simp
          with_reducible rfl
        rotate_left
        · simp only [Act.put, List.setIfInBounds_toArray, List.set_cons_zero, List.set_cons_succ, i64_w, i32_w]
          rfl
        refine pure_ (i := 6) (N := some 85) (v := ?_) (a' := ?_) #[true, true, true, true, true, true, true, false, false, false, false, false, false, false, false, false] rfl rfl (by kernel_rfl) (fun _ _ _ h => h) (Or.inl ⟨by rfl, ?_⟩) ?_ ?_
        rotate_left
        · intro w'
          go_simp
          with_reducible rfl
        rotate_left
        · simp only [Act.put, List.setIfInBounds_toArray, List.set_cons_zero, List.set_cons_succ, i64_w, i32_w]
          rfl
        refine take_ (i := 8) (N := some 87) (v := ?_) (a' := ?_) #[true, true, true, true, true, true, true, false, true, false, false, false, false, false, false, false] rfl rfl (by kernel_rfl) (fun _ _ _ h => h) (Or.inl ⟨by rfl, ?_⟩) hHeld ?_ ?_
        rotate_left
        · rintro w' ⟨s0, s1, s2⟩
          go_simp
          with_reducible rfl
        rotate_left
        · simp only [Act.put, List.setIfInBounds_toArray, List.set_cons_zero, List.set_cons_succ, i64_w, i32_w]
          rfl
        refine one_ (i := 7) (N := some 86) #[true, true, true, true, true, true, true, true, true, false, false, false, false, false, false, false] rfl rfl (by kernel_rfl) (by decide) (fun K hK => ?_)
        refine goes_ Try.func10 (by kernel_rfl) rfl #[.pointer (some ⟨w.heap.size, 0, none⟩)] (by rfl) rfl rfl (by first | (simp only [List.map_toArray, List.map_cons, List.map_nil]; done) | (simp only [List.map_toArray, List.map_cons, List.map_nil]; rfl)) ?_
        with_reducible refine (PRest_any H4.out.1 HR0.out).mono ?_
        rintro e w5 ⟨rfl, hb⟩
        refine ⟨_, rfl, ?_⟩
        have H5 := Aside0.mk (And.intro (H4.out.1.below hb) (H4.out.2.below hb))
        have N5 := Aside0.mk (blk_below N4.out hb)
        clear hb
        refine hK.out _ _ ⟨(blk_cell N5.out 0).trans (rfl : _ = some (Value.int .i64 0)), (blk_cell N5.out 1).trans (rfl : _ = some (Value.slice An p.n.length cn)), (blk_cell N5.out 2).trans (rfl : _ = some (Value.slice Ah1 0 ch1))⟩ (fun hHeld => ?_)
        clear hK K
        refine norm_ (a' := ?_) ?_ ?_
        rotate_left
        · show Act.put _ (some 86) _ = _
          simp only [Act.put, List.setIfInBounds_toArray, List.set_cons_zero, List.set_cons_succ, i64_w, i32_w]
          rfl
        refine one_ (i := 9) (N := some 88) #[true, true, true, true, true, true, true, true, true, true, false, false, false, false, false, false] rfl rfl (by kernel_rfl) (by decide) (fun K hK => ?_)
        refine goes_ Try.func11 (by kernel_rfl) rfl #[.agg #[.int .i64 0, .slice An p.n.length cn, .slice Ah1 0 ch1]] (by rfl) rfl rfl (by first | (simp only [List.map_toArray, List.map_cons, List.map_nil]; done) | (simp only [List.map_toArray, List.map_cons, List.map_nil]; rfl)) ?_
        with_reducible refine (RRest_any _ ⟨0, p.n, []⟩ (.slice An p.n.length cn) (.slice Ah1 0 ch1) (H5.out.2.mono (fun _ _ => trivial)) (RD.empty H1.out.2.1) HR0.out).mono ?_
        rintro e w6 ⟨rfl, hb⟩
        refine ⟨_, rfl, ?_⟩
        have H6 := Aside0.mk (H5.out.1.below hb)
        have N6 := Aside0.mk (blk_below N5.out hb)
        clear hb
        refine hK.out _ _ ⟨(blk_cell N6.out 0).trans (rfl : _ = some (Value.int .i64 0)), (blk_cell N6.out 1).trans (rfl : _ = some (Value.slice An p.n.length cn)), (blk_cell N6.out 2).trans (rfl : _ = some (Value.slice Ah1 0 ch1))⟩ (fun hHeld => ?_)
        clear hK K
        refine norm_ (a' := ?_) ?_ ?_
        rotate_left
        · show Act.put _ (some 88) _ = _
          simp only [Act.put, List.setIfInBounds_toArray, List.set_cons_zero, List.set_cons_succ, i64_w, i32_w]
          rfl
        refine pure_ (i := 10) (N := some 89) (v := ?_) (a' := ?_) #[true, true, true, true, true, true, true, true, true, true, true, false, false, false, false, false] rfl rfl (by kernel_rfl) (fun _ _ _ h => h) (Or.inl ⟨by rfl, ?_⟩) ?_ ?_
        rotate_left
        · intro w'
          go_simp
          with_reducible rfl
        rotate_left
        · simp only [Act.put, List.setIfInBounds_toArray, List.set_cons_zero, List.set_cons_succ, i64_w, i32_w]
          rfl
        refine pure_ (i := 11) (N := some 90) (v := ?_) (a' := ?_) #[true, true, true, true, true, true, true, true, true, true, true, true, false, false, false, false] rfl rfl (by kernel_rfl) (fun _ _ _ h => h) (Or.inl ⟨by rfl, ?_⟩) ?_ ?_
        rotate_left
        · intro w'
          go_simp
          with_reducible rfl
        rotate_left
        · simp only [Act.put, List.setIfInBounds_toArray, List.set_cons_zero, List.set_cons_succ, i64_w, i32_w]
          rfl
        refine pure_ (i := 12) (N := some 91) (v := ?_) (a' := ?_) #[true, true, true, true, true, true, true, true, true, true, true, true, true, false, false, false] rfl rfl (by kernel_rfl) (fun _ _ _ h => h) (Or.inl ⟨by rfl, ?_⟩) ?_ ?_
        rotate_left
        · intro w'
          go_simp
          with_reducible rfl
        rotate_left
        · simp only [Act.put, List.setIfInBounds_toArray, List.set_cons_zero, List.set_cons_succ, i64_w, i32_w]
          rfl
        refine one_ (i := 13) (N := some 92) #[true, true, true, true, true, true, true, true, true, true, true, true, true, true, false, false] rfl rfl (by kernel_rfl) (by decide) (fun K hK => ?_)
        refine goes_ Try.func10 (by kernel_rfl) rfl #[.pointer (some ⟨w.heap.size, 0, none⟩)] (by rfl) rfl rfl (by first | (simp only [List.map_toArray, List.map_cons, List.map_nil]; done) | (simp only [List.map_toArray, List.map_cons, List.map_nil]; rfl)) ?_
        with_reducible refine (PRest_any H6.out HR0.out).mono ?_
        rintro e w7 ⟨rfl, hb⟩
        refine ⟨_, rfl, ?_⟩
        have H7 := Aside0.mk (H6.out.below hb)
        have N7 := Aside0.mk (blk_below N6.out hb)
        clear hb
        refine hK.out _ _ ⟨(blk_cell N7.out 0).trans (rfl : _ = some (Value.int .i64 0)), (blk_cell N7.out 1).trans (rfl : _ = some (Value.slice An p.n.length cn)), (blk_cell N7.out 2).trans (rfl : _ = some (Value.slice Ah1 0 ch1))⟩ (fun hHeld => ?_)
        clear hK K
        refine norm_ (a' := ?_) ?_ ?_
        rotate_left
        · show Act.put _ (some 92) _ = _
          simp only [Act.put, List.setIfInBounds_toArray, List.set_cons_zero, List.set_cons_succ, i64_w, i32_w]
          rfl
        refine pure_ (i := 14) (N := some 93) (v := ?_) (a' := ?_) #[true, true, true, true, true, true, true, true, true, true, true, true, true, true, true, false] rfl rfl (by kernel_rfl) (fun _ _ _ h => h) (Or.inl ⟨by rfl, ?_⟩) ?_ ?_
        rotate_left
        · intro w'
          go_simp
          with_reducible rfl
        rotate_left
        · simp only [Act.put, List.setIfInBounds_toArray, List.set_cons_zero, List.set_cons_succ, i64_w, i32_w]
          rfl
        refine pure_ (i := 15) (N := some 2) (v := ?_) (a' := ?_) #[true, true, true, true, true, true, true, true, true, true, true, true, true, true, true, true] rfl rfl (by kernel_rfl) (fun _ _ _ h => h) (Or.inl ⟨by rfl, ?_⟩) ?_ ?_
        rotate_left
        · intro w'
          go_simp
          with_reducible rfl
        rotate_left
        · simp only [Act.put, List.setIfInBounds_toArray, List.set_cons_zero, List.set_cons_succ, i64_w, i32_w]
          rfl
        refine done_ (by kernel_rfl) ?_
        all_goals go_wp2
        all_goals go_ret
        all_goals exact ⟨rfl, H7.out.st.hb⟩
      · have hT1 : decide ((i : Int) < (l.length : Int)) = false := decide_eq_false (by omega)
        go_wp2_with (first | (go_at_call 12; go_must (refine (RFlush_any wr p (.slice An p.n.length cn) (.slice Ah p.h.length ch) (HE1.out.rn.mono (fun _ _ => trivial)) (HE1.out.rh.mono (fun _ _ => trivial))).mono ?_); rintro e w1 ⟨vh1, Ao1, co1, rfl, hh1, hC1, hco1, hb1⟩; obtain ⟨Ah1, ch1, rfl, -, -⟩ := id hh1; have H1 := Aside0.mk (And.intro (HE1.out.below hb1) (And.intro hh1 (And.intro hco1 hC1))); clear hh1 hC1 hco1 hb1))
        have HN0 := Aside0.mk (blk_new w1 (.cells #[.int .i64 0, .slice An p.n.length cn, .slice Ah1 0 ch1] 31))
        have hg0 := (blk_cell HN0.out 0).trans (rfl : _ = some (Value.int .i64 0))
        have hg1 := (blk_cell HN0.out 1).trans (rfl : _ = some (Value.slice An p.n.length cn))
        have hg2 := (blk_cell HN0.out 2).trans (rfl : _ = some (Value.slice Ah1 0 ch1))
        refine start_ (n := 16) (S := fun w' => w'.cell? ⟨w1.heap.size, 0, none⟩ = some (.int .i64 0) ∧ w'.cell? ⟨w1.heap.size, 1, none⟩ = some (.slice An p.n.length cn) ∧ w'.cell? ⟨w1.heap.size, 2, none⟩ = some (.slice Ah1 0 ch1)) (ds := []) #[false, false, false, false, false, false, false, false, false, false, false, false, false, false, false, false] (by kernel_rfl) rfl rfl ⟨hg0, hg1, hg2⟩ (fun hHeld => ?_)
        refine one_ (i := 0) (N := some 79) #[true, false, false, false, false, false, false, false, false, false, false, false, false, false, false, false] rfl rfl (by kernel_rfl) (by decide) (fun K hK => ?_)
        refine goes_ Try.func13 (by kernel_rfl) rfl #[] (by rfl) rfl rfl (by first | (simp only [List.map_toArray, List.map_cons, List.map_nil]; done) | (simp only [List.map_toArray, List.map_cons, List.map_nil]; rfl)) ?_
        with_reducible refine (known8 _).mono ?_
        rintro e w2 ⟨rfl, hb⟩
        refine ⟨_, rfl, ?_⟩
        have H2 := Aside0.mk (H1.out.1.below (show Below w1.heap.size w1 w2 from below_step (by repeat (first | exact Below.refl _ _ | apply below_alloc | apply pw_below_drewN | apply below_drew1 | (refine Below.setCell ?_ (by simp) _))) hb))
        have F2 := Aside0.mk (Kd.F_below H1.out.2.2.2 (show Below w1.heap.size w1 w2 from below_step (by repeat (first | exact Below.refl _ _ | apply below_alloc | apply pw_below_drewN | apply below_drew1 | (refine Below.setCell ?_ (by simp) _))) hb))
        have N2 := Aside0.mk (blk_below HN0.out (show Below (w1.alloc (.cells #[.int .i64 0, .slice An p.n.length cn, .slice Ah1 0 ch1] 31)).heap.size (w1.alloc (.cells #[.int .i64 0, .slice An p.n.length cn, .slice Ah1 0 ch1] 31)) w2 from below_step (by repeat (first | exact Below.refl _ _ | apply below_alloc | apply pw_below_drewN | apply below_drew1 | (refine Below.setCell ?_ (by simp) _))) hb))
        clear hb
        refine hK.out _ _ ⟨(blk_cell N2.out 0).trans (rfl : _ = some (Value.int .i64 0)), (blk_cell N2.out 1).trans (rfl : _ = some (Value.slice An p.n.length cn)), (blk_cell N2.out 2).trans (rfl : _ = some (Value.slice Ah1 0 ch1))⟩ (fun hHeld => ?_)
        clear hK K
        refine norm_ (a' := ?_) ?_ ?_
        rotate_left
        · show Act.put _ (some 79) _ = _
          simp only [Act.put, List.setIfInBounds_toArray, List.set_cons_zero, List.set_cons_succ, i64_w, i32_w]
          rfl
        refine pure_ (i := 1) (N := some 80) (v := ?_) (a' := ?_) #[true, true, false, false, false, false, false, false, false, false, false, false, false, false, false, false] rfl rfl (by kernel_rfl) (fun _ _ _ h => h) (Or.inl ⟨by rfl, ?_⟩) ?_ ?_
        rotate_left
        · intro w'
          go_simp
          with_reducible rfl
        rotate_left
        · simp only [Act.put, List.setIfInBounds_toArray, List.set_cons_zero, List.set_cons_succ, i64_w, i32_w]
          rfl
        refine pure_ (i := 3) (N := some 82) (v := ?_) (a' := ?_) #[true, true, false, true, false, false, false, false, false, false, false, false, false, false, false, false] rfl rfl (by kernel_rfl) (fun _ _ _ h => h) (Or.inl ⟨by rfl, ?_⟩) ?_ ?_
        rotate_left
        · intro w'
          go_simp
          with_reducible rfl
        rotate_left
        · simp only [Act.put, List.setIfInBounds_toArray, List.set_cons_zero, List.set_cons_succ, i64_w, i32_w]
          rfl
        refine one_ (i := 2) (N := some 81) #[true, true, true, true, false, false, false, false, false, false, false, false, false, false, false, false] rfl rfl (by kernel_rfl) (by decide) (fun K hK => ?_)
        refine goes_ Try.func14 (by kernel_rfl) rfl #[.pointer (some ⟨w.heap.size, 0, none⟩)] (by rfl) rfl rfl (by first | (simp only [List.map_toArray, List.map_cons, List.map_nil]; done) | (simp only [List.map_toArray, List.map_cons, List.map_nil]; rfl)) ?_
        with_reducible refine (PFlush_any H2.out.pw).mono ?_
        rintro e w3 ⟨A3, c3, rfl, hc3, hF3, hP3, hK3⟩
        refine ⟨_, rfl, ?_⟩
        have H3 := Aside0.mk (And.intro hP3 (And.intro (H2.out.rn.kept hK3 (fun k hk h => hk.1.1 h)) (And.intro hc3 (Kd.F_now hF3))))
        have F3 := Aside0.mk (Kd.F_kept F2.out hK3 (fun k hk h => by have := HE1.out.sz; omega))
        have N3 := Aside0.mk (blk_kept N2.out hK3 (fun h => by have := H1.out.1.sz; omega))
        clear hc3 hF3 hP3 hK3
        refine hK.out _ _ ⟨(blk_cell N3.out 0).trans (rfl : _ = some (Value.int .i64 0)), (blk_cell N3.out 1).trans (rfl : _ = some (Value.slice An p.n.length cn)), (blk_cell N3.out 2).trans (rfl : _ = some (Value.slice Ah1 0 ch1))⟩ (fun hHeld => ?_)
        clear hK K
        refine norm_ (a' := ?_) ?_ ?_
        rotate_left
        · show Act.put _ (some 81) _ = _
          simp only [Act.put, List.setIfInBounds_toArray, List.set_cons_zero, List.set_cons_succ, i64_w, i32_w]
          rfl
        refine one_ (i := 4) (N := some 83) #[true, true, true, true, true, false, false, false, false, false, false, false, false, false, false, false] rfl rfl (by kernel_rfl) (by decide) (fun K hK => ?_)
        refine goes_ Try.func8 (by kernel_rfl) rfl #[.slice A3 (flushV p.h).length c3, .slice Ao1 (flushV p.h).length co1] (by rfl) rfl rfl (by first | (simp only [List.map_toArray, List.map_cons, List.map_nil]; done) | (simp only [List.map_toArray, List.map_cons, List.map_nil]; rfl)) ?_
        with_reducible refine (SameE A3 c3 Ao1 co1 (flushV p.h) _ H3.out.2.2.2 H3.out.2.2.1 (Kd.F_now F3.out) H1.out.2.2.1 hS.out (by have := hFL.out; omega)).mono ?_
        rintro e w4 ⟨rfl, hb⟩
        refine ⟨_, rfl, ?_⟩
        have H4 := Aside0.mk (And.intro (H3.out.1.below hb) (H3.out.2.1.below hb))
        have N4 := Aside0.mk (blk_below N3.out hb)
        clear hb
        refine hK.out _ _ ⟨(blk_cell N4.out 0).trans (rfl : _ = some (Value.int .i64 0)), (blk_cell N4.out 1).trans (rfl : _ = some (Value.slice An p.n.length cn)), (blk_cell N4.out 2).trans (rfl : _ = some (Value.slice Ah1 0 ch1))⟩ (fun hHeld => ?_)
        clear hK K
        refine norm_ (a' := ?_) ?_ ?_
        rotate_left
        · show Act.put _ (some 83) _ = _
          simp only [Act.put, List.setIfInBounds_toArray, List.set_cons_zero, List.set_cons_succ, i64_w, i32_w]
          rfl
        refine pure_ (i := 5) (N := some 84) (v := ?_) (a' := ?_) #[true, true, true, true, true, true, false, false, false, false, false, false, false, false, false, false] rfl rfl (by kernel_rfl) (fun _ _ _ h => h) (Or.inl ⟨by rfl, ?_⟩) ?_ ?_
        rotate_left
        · intro w'
          go_simp
          with_reducible rfl
        rotate_left
        · simp only [Act.put, List.setIfInBounds_toArray, List.set_cons_zero, List.set_cons_succ, i64_w, i32_w]
          rfl
        refine pure_ (i := 6) (N := some 85) (v := ?_) (a' := ?_) #[true, true, true, true, true, true, true, false, false, false, false, false, false, false, false, false] rfl rfl (by kernel_rfl) (fun _ _ _ h => h) (Or.inl ⟨by rfl, ?_⟩) ?_ ?_
        rotate_left
        · intro w'
          go_simp
          with_reducible rfl
        rotate_left
        · simp only [Act.put, List.setIfInBounds_toArray, List.set_cons_zero, List.set_cons_succ, i64_w, i32_w]
          rfl
        refine take_ (i := 8) (N := some 87) (v := ?_) (a' := ?_) #[true, true, true, true, true, true, true, false, true, false, false, false, false, false, false, false] rfl rfl (by kernel_rfl) (fun _ _ _ h => h) (Or.inl ⟨by rfl, ?_⟩) hHeld ?_ ?_
        rotate_left
        · rintro w' ⟨s0, s1, s2⟩
          go_simp
          with_reducible rfl
        rotate_left
        · simp only [Act.put, List.setIfInBounds_toArray, List.set_cons_zero, List.set_cons_succ, i64_w, i32_w]
          rfl
        refine one_ (i := 7) (N := some 86) #[true, true, true, true, true, true, true, true, true, false, false, false, false, false, false, false] rfl rfl (by kernel_rfl) (by decide) (fun K hK => ?_)
        refine goes_ Try.func10 (by kernel_rfl) rfl #[.pointer (some ⟨w.heap.size, 0, none⟩)] (by rfl) rfl rfl (by first | (simp only [List.map_toArray, List.map_cons, List.map_nil]; done) | (simp only [List.map_toArray, List.map_cons, List.map_nil]; rfl)) ?_
        with_reducible refine (PRest_any H4.out.1 HR0.out).mono ?_
        rintro e w5 ⟨rfl, hb⟩
        refine ⟨_, rfl, ?_⟩
        have H5 := Aside0.mk (And.intro (H4.out.1.below hb) (H4.out.2.below hb))
        have N5 := Aside0.mk (blk_below N4.out hb)
        clear hb
        refine hK.out _ _ ⟨(blk_cell N5.out 0).trans (rfl : _ = some (Value.int .i64 0)), (blk_cell N5.out 1).trans (rfl : _ = some (Value.slice An p.n.length cn)), (blk_cell N5.out 2).trans (rfl : _ = some (Value.slice Ah1 0 ch1))⟩ (fun hHeld => ?_)
        clear hK K
        refine norm_ (a' := ?_) ?_ ?_
        rotate_left
        · show Act.put _ (some 86) _ = _
          simp only [Act.put, List.setIfInBounds_toArray, List.set_cons_zero, List.set_cons_succ, i64_w, i32_w]
          rfl
        refine one_ (i := 9) (N := some 88) #[true, true, true, true, true, true, true, true, true, true, false, false, false, false, false, false] rfl rfl (by kernel_rfl) (by decide) (fun K hK => ?_)
        refine goes_ Try.func11 (by kernel_rfl) rfl #[.agg #[.int .i64 0, .slice An p.n.length cn, .slice Ah1 0 ch1]] (by rfl) rfl rfl (by first | (simp only [List.map_toArray, List.map_cons, List.map_nil]; done) | (simp only [List.map_toArray, List.map_cons, List.map_nil]; rfl)) ?_
        with_reducible refine (RRest_any _ ⟨0, p.n, []⟩ (.slice An p.n.length cn) (.slice Ah1 0 ch1) (H5.out.2.mono (fun _ _ => trivial)) (RD.empty H1.out.2.1) HR0.out).mono ?_
        rintro e w6 ⟨rfl, hb⟩
        refine ⟨_, rfl, ?_⟩
        have H6 := Aside0.mk (H5.out.1.below hb)
        have N6 := Aside0.mk (blk_below N5.out hb)
        clear hb
        refine hK.out _ _ ⟨(blk_cell N6.out 0).trans (rfl : _ = some (Value.int .i64 0)), (blk_cell N6.out 1).trans (rfl : _ = some (Value.slice An p.n.length cn)), (blk_cell N6.out 2).trans (rfl : _ = some (Value.slice Ah1 0 ch1))⟩ (fun hHeld => ?_)
        clear hK K
        refine norm_ (a' := ?_) ?_ ?_
        rotate_left
        · show Act.put _ (some 88) _ = _
          simp only [Act.put, List.setIfInBounds_toArray, List.set_cons_zero, List.set_cons_succ, i64_w, i32_w]
          rfl
        refine pure_ (i := 10) (N := some 89) (v := ?_) (a' := ?_) #[true, true, true, true, true, true, true, true, true, true, true, false, false, false, false, false] rfl rfl (by kernel_rfl) (fun _ _ _ h => h) (Or.inl ⟨by rfl, ?_⟩) ?_ ?_
        rotate_left
        · intro w'
          go_simp
          with_reducible rfl
        rotate_left
        · simp only [Act.put, List.setIfInBounds_toArray, List.set_cons_zero, List.set_cons_succ, i64_w, i32_w]
          rfl
        refine pure_ (i := 11) (N := some 90) (v := ?_) (a' := ?_) #[true, true, true, true, true, true, true, true, true, true, true, true, false, false, false, false] rfl rfl (by kernel_rfl) (fun _ _ _ h => h) (Or.inl ⟨by rfl, ?_⟩) ?_ ?_
        rotate_left
        · intro w'
          go_simp
          with_reducible rfl
        rotate_left
        · simp only [Act.put, List.setIfInBounds_toArray, List.set_cons_zero, List.set_cons_succ, i64_w, i32_w]
          rfl
        refine pure_ (i := 12) (N := some 91) (v := ?_) (a' := ?_) #[true, true, true, true, true, true, true, true, true, true, true, true, true, false, false, false] rfl rfl (by kernel_rfl) (fun _ _ _ h => h) (Or.inl ⟨by rfl, ?_⟩) ?_ ?_
        rotate_left
        · intro w'
          go_simp
          with_reducible rfl
        rotate_left
        · simp only [Act.put, List.setIfInBounds_toArray, List.set_cons_zero, List.set_cons_succ, i64_w, i32_w]
          rfl
        refine one_ (i := 13) (N := some 92) #[true, true, true, true, true, true, true, true, true, true, true, true, true, true, false, false] rfl rfl (by kernel_rfl) (by decide) (fun K hK => ?_)
        refine goes_ Try.func10 (by kernel_rfl) rfl #[.pointer (some ⟨w.heap.size, 0, none⟩)] (by rfl) rfl rfl (by first | (simp only [List.map_toArray, List.map_cons, List.map_nil]; done) | (simp only [List.map_toArray, List.map_cons, List.map_nil]; rfl)) ?_
        with_reducible refine (PRest_any H6.out HR0.out).mono ?_
        rintro e w7 ⟨rfl, hb⟩
        refine ⟨_, rfl, ?_⟩
        have H7 := Aside0.mk (H6.out.below hb)
        have N7 := Aside0.mk (blk_below N6.out hb)
        clear hb
        refine hK.out _ _ ⟨(blk_cell N7.out 0).trans (rfl : _ = some (Value.int .i64 0)), (blk_cell N7.out 1).trans (rfl : _ = some (Value.slice An p.n.length cn)), (blk_cell N7.out 2).trans (rfl : _ = some (Value.slice Ah1 0 ch1))⟩ (fun hHeld => ?_)
        clear hK K
        refine norm_ (a' := ?_) ?_ ?_
        rotate_left
        · show Act.put _ (some 92) _ = _
          simp only [Act.put, List.setIfInBounds_toArray, List.set_cons_zero, List.set_cons_succ, i64_w, i32_w]
          rfl
        refine pure_ (i := 14) (N := some 93) (v := ?_) (a' := ?_) #[true, true, true, true, true, true, true, true, true, true, true, true, true, true, true, false] rfl rfl (by kernel_rfl) (fun _ _ _ h => h) (Or.inl ⟨by rfl, ?_⟩) ?_ ?_
        rotate_left
        · intro w'
          go_simp
          with_reducible rfl
        rotate_left
        · simp only [Act.put, List.setIfInBounds_toArray, List.set_cons_zero, List.set_cons_succ, i64_w, i32_w]
          rfl
        refine pure_ (i := 15) (N := some 2) (v := ?_) (a' := ?_) #[true, true, true, true, true, true, true, true, true, true, true, true, true, true, true, true] rfl rfl (by kernel_rfl) (fun _ _ _ h => h) (Or.inl ⟨by rfl, ?_⟩) ?_ ?_
        rotate_left
        · intro w'
          go_simp
          with_reducible rfl
        rotate_left
        · simp only [Act.put, List.setIfInBounds_toArray, List.set_cons_zero, List.set_cons_succ, i64_w, i32_w]
          rfl
        refine done_ (by kernel_rfl) ?_
        all_goals go_wp2
        all_goals go_ret
        all_goals exact ⟨rfl, H7.out.st.hb⟩
theorem own_ParseEvents : ownKnob Try.prog.godebug = none := by kernel_rfl
theorem laidOut_ParseEvents : laidOutB Try.prog = true := by kernel_rfl
set_option maxRecDepth 100000 in
theorem lifted_ParseEvents (os : Os) (started : os.Started) (H : Type) (enc : TypeId × Value → H) :
    ReturnsInHanded {} Try.checked os 3 .any (Rows.parseEventsSpec.pre6 enc Try.prog Try.f3 Rows.parseEventsRow.domain false) (Rows.parseEventsSpec.post enc Try.prog Try.f3 false true false false) := by
  refine returnsInHanded_of_change (C := Try.checked) own_ParseEvents started (by kernel_rfl) Try.func3
    (ChangeSpec.witness6 (enc := enc) (C := Try.checked) false ⟨#[], #[.slice none 0 0], []⟩ 8 (by kernel_rfl) (by kernel_rfl) (by kernel_rfl) (by kernel_rfl)) ?_
  intro W base args ds gs before hval0 hW hcnd _
  have hval : ∀ (j : Nat) t v, Try.f3.params[j]? = some t → args[j]? = some v → Value.okWide Try.prog W .any base t v := hval0
  have hW' := hW
  obtain ⟨p, q, hA0, hV, rfl, hfz, hnd⟩ := hW
  have hA : DataW.TrodAll enc Try.prog W 0 (fun _ => true) true Try.f3.params.toList args.toList ds p := hA0
  rw [Try.params3] at hA hval
  obtain ⟨v0, vs0, d0, ds0, p0, q0, hargs, rfl, rfl, h0, r0⟩ := trodAll_cons hA
  obtain ⟨rfl, rfl, rfl⟩ := trodAll_nil r0
  obtain rfl : args = #[v0] := by cases args; simp_all
  obtain ⟨rfl, rfl⟩ := trodVars_none hV
  obtain ⟨a0, len0, cap0, rfl⟩ := okWide_slice Try.underlying22 (hval 0 22 v0 rfl rfl)
  have k0 := h0
  have lt0 : ∀ x ∈ p0, x.block < W.heap.size := by obtain ⟨m, hm⟩ := k0; exact DataW.trod_lt m _ _ _ hm
  obtain ⟨l0, rfl, hC0, hc0, hq0⟩ := open_sl (Opn.slice (e := 29) (d := Kd.slice 5 (Kd.int .u8)) (Q := fun y : List Int => ∀ x ∈ y, (Lit.int .u8 x).wf = true) Try.underlying22 (by kernel_rfl) (Opn.slice (d := Kd.int .u8) Try.underlying29 (by kernel_rfl) (Opn.int Try.underlying5))) h0
  refine (walk_ParseEvents a0 cap0 l0 W hC0 hc0 hq0).mono fun e W' ⟨he, bel⟩ => ?_
  subst he
  exact ⟨_, rfl, _, _, _, [], _, [], hW', trodAll_mk1 (shut_bool Try.underlying4 _), (trodAll_cons_mk (Below.trod laidOut_ParseEvents (by kernel_rfl) (of_decide_eq_true (by kernel_rfl)) k0 bel lt0) trodAll_mk0), rfl, bel.frame _, fun h => by cases h⟩
/-- The row. -/
theorem ParseEvents_holds : Rows.ParseEventsSaid :=
  OpenClaim.holds_of_wide 3 Try.f3 rfl rfl rfl rfl rfl rfl rfl ⟨rfl, rfl, rfl, rfl, rfl⟩ rfl rfl rfl rfl rfl (by kernel_rfl) Try.func3 (by kernel_rfl)
    (of_decide_eq_true (by kernel_rfl)) (by unfold Func.isWrapper; first | (rw [if_pos (by decide +kernel)]; kernel_rfl) | (rw [if_neg (by decide +kernel)]; exact ⟨rfl, rfl⟩))
    (fun os started H enc _ => lifted_ParseEvents os started H enc)
#print axioms ParseEvents_holds
end Go.Proofs.Ytlllbaieidbcdaa
