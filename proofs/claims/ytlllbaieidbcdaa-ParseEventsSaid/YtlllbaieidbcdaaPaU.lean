/- The document's parser: a step whatever the byte; bytes fed; flushed. -/
import Derived.Test.YtlllbaieidbcdaaPaQ
import Derived.Test.YtlllbaieidbcdaaPaR
import Derived.Test.YtlllbaieidbcdaaPaT
namespace Go.Proofs.Ytlllbaieidbcdaa.Str
open Go.RowKit Go.Proofs.Ytlllbaieidbcdaa Go.Proofs.Ytlllbaieidbcdaa.PParseEvents Go.Proofs.YtlllbaieidbcdaaW.PrintWords Go.Proofs.YtlllbaieidbcdaaW.PrintLast Go.Proofs.YtlllbaieidbcdaaW.PrintMore
set_option linter.unusedVariables false
set_option linter.unusedSimpArgs false
theorem Step_any (w : World) (st : Int) (n h : List Int) (m : Nat) (An : Option Addr) (cn : Nat) (Ah : Option Addr) (ch : Nat) (Ao : Option Addr) (co : Nat) (L : List S48) (x : Int) (P : Nat → Prop) (hp : (⟨st, n, h⟩ : PP).ok m) (hm : m ≤ 10000)
    (hn : RD (Kd.int .i64) w P (.slice An n.length cn) n) (hh : RD (Kd.int .u8) w P (.slice Ah h.length ch) h) (ho : RD kE8 w P (.slice Ao L.length co) L) (hl : L.length ≤ 100000) (hx8 : 0 ≤ x ∧ x ≤ 255)
    {st' : Int} {n' h' : List Int} {E : List Evt} (hs : stepV ⟨st, n, h⟩ x = (⟨st', n', h'⟩, E)) {L' : List S48} (hL' : L ++ E.map ev48 = L') :
    Calls Try.prog 20 #[.agg #[.int .i64 st, .slice An n.length cn, .slice Ah h.length ch], .slice Ao L.length co, .int .u8 x] w fun e w' => RPost P w w' e st' n' h' L' := by
  by_cases cA : x < 32 ∨ x = 127
  · exact Step_A w st n h m An cn Ah ch Ao co L x P hp hm hn hh ho hl hx8 cA hs hL'
  · by_cases cB : 128 ≤ x ∨ st = 0
    · exact Step_B w st n h m An cn Ah ch Ao co L x P hp hm hn hh ho hl hx8 cA cB hs hL'
    · exact Step_C w st n h m An cn Ah ch Ao co L x P hp hm hn hh ho hl hx8 cA cB hs hL'
theorem okS_of {P : Nat → Prop} {w wr wc : World} {k : Nat} (hs : w.heap.size + 2 ≤ wr.heap.size) (hc : wr.heap.size ≤ wc.heap.size) (h : okS (fun k => okS P w k ∧ k < wr.heap.size) wc k) : okS P w k := by
  by_cases hk : k < wc.heap.size
  · exact (h.2.2 hk).1
  · exact okS_new (by omega)
set_option maxRecDepth 100000 in
set_option maxHeartbeats 8000000 in
theorem RFeed_any (w : World) (p : PP) (m : Nat) (vn vh : Value) (A : Option Addr) (c : Nat) (b : List Int) (P : Nat → Prop) (hp : p.ok m) (hm : m + b.length ≤ 10000)
    (hn : RD (Kd.int .i64) w P vn p.n) (hh : RD (Kd.int .u8) w P vh p.h) (hC : Kd.C (Kd.int .u8) w A b.length b) (h8 : In8u b) {q : PP} {E : List Evt} (hs : feedV p b = (q, E)) :
    Calls Try.prog 6 #[.agg #[.int .i64 p.st, vn, vh], .slice A b.length c] w fun e w' => RPost P w w' e q.st q.n q.h (E.map ev48) := by
  obtain ⟨An, cn, rfl, hcn, hFn⟩ := hn
  obtain ⟨Ah, ch, rfl, hch, hFh⟩ := hh
  have hb : Below w.heap.size w ((w.alloc (.cells #[.int .i64 p.st, .slice An p.n.length cn, .slice Ah p.h.length ch] 31)).alloc (.cells #[.int .i64 0, .slice none 0 0, .slice none 0 0] 31)) := below_alloc (below_alloc (Below.refl _ _) _) _
  have hQ0 : RQ P w ((w.alloc (.cells #[.int .i64 p.st, .slice An p.n.length cn, .slice Ah p.h.length ch] 31)).alloc (.cells #[.int .i64 0, .slice none 0 0, .slice none 0 0] 31)) p.st p.n p.h (.slice An p.n.length cn) (.slice Ah p.h.length ch) (.slice none 0 0) [] := by
    refine ⟨blk_alloc (blk_new w _) _, ?_, hb, ((RD.bound ⟨An, cn, rfl, hcn, hFn⟩).below hb).mono (fun k hk => ⟨by omega, by omega, fun _ => hk.1⟩), ((RD.bound ⟨Ah, ch, rfl, hch, hFh⟩).below hb).mono (fun k hk => ⟨by omega, by omega, fun _ => hk.1⟩), RD.nil _ _ _⟩
    have := blk_new (w.alloc (.cells #[.int .i64 p.st, .slice An p.n.length cn, .slice Ah p.h.length ch] 31)) (.cells #[.int .i64 0, .slice none 0 0, .slice none 0 0] 31)
    rwa [alloc_size1] at this
  have HQ := Aside0.mk hQ0
  have HP := Aside0.mk hp
  have HC := Aside0.mk hC
  have H8 := Aside0.mk h8
  have HM := Aside0.mk hm
  have HS := Aside0.mk hs
  have hbl : b.length ≤ 10000 := by omega
  clear hp hm hC h8 hQ0 hb hFn hFh hcn hch hs
  go_enter Try.func6, Try.ntmps6
  go_wp2
  go_loopg [6, 7] (b.length + 1) (fun kq v6 v7 w' => ∃ (i : Nat) (vn vh : Value), v7 = .int .i64 i ∧ Aside0 (kq + i = b.length + 1 ∧ i ≤ b.length) ∧ Aside0 (RQ P w w' (feedV p (b.take i)).1.st (feedV p (b.take i)).1.n (feedV p (b.take i)).1.h vn vh v6 ((feedV p (b.take i)).2.map ev48)))
  case atStart => exact ⟨0, _, _, rfl, ⟨by omega, by omega⟩, ⟨by rw [List.take_zero]; exact HQ.out⟩⟩
  case round =>
    obtain ⟨i, vn, vh, rfl, HK, HR0⟩ := hrel
    have hok := feed_ok (b.take i) HP.out (fun x hx => H8.out x (List.mem_of_mem_take hx))
    have hfl := feed_len (b.take i) HP.out (fun x hx => H8.out x (List.mem_of_mem_take hx))
    have hnext : ∀ x, b.take (i + 1) = b.take i ++ [x] → feedV p (b.take (i + 1)) = ((stepV (feedV p (b.take i)).1 x).1, (feedV p (b.take i)).2 ++ (stepV (feedV p (b.take i)).1 x).2) := fun x hx => by rw [hx, feed_snoc]
    obtain ⟨⟨⟨st, n, h⟩, O⟩, hpo⟩ : ∃ q, feedV p (b.take i) = q := ⟨_, rfl⟩
    rw [hpo] at hok hfl HR0 hnext
    dsimp only at hok hfl HR0 hnext
    rw [List.length_take] at hok hfl
    obtain ⟨An', cn', rfl, -, -⟩ := HR0.out.rn
    obtain ⟨Ah', ch', rfl, -, -⟩ := HR0.out.rh
    obtain ⟨M, hM⟩ : ∃ M, O.map ev48 = M := ⟨_, rfl⟩
    rw [hM] at HR0
    obtain ⟨Ao', co', rfl, -, -⟩ := HR0.out.ro
    have HR := HR0
    obtain ⟨hc0, hc1, hc2, hf0, hf1, hf2⟩ := HR.out.cells
    obtain ⟨hd0, hd1, hd2, he0, he1, he2⟩ := HR.out.cells6
    have HOK := Aside0.mk hok
    have HML := Aside0.mk (show M.length ≤ 100000 by rw [← hM, List.length_map]; have := HM.out; omega)
    by_cases hi : i < b.length
    case neg =>
      have hie : i = b.length := by have := HK.out; omega
      have hT : decide ((i : Int) < (b.length : Int)) = false := decide_eq_false (by omega)
      have hq : (⟨st, n, h⟩, O) = (q, E) := by rw [← HS.out, ← hpo, hie, List.take_of_length_le (Nat.le_refl _)]
      injection hq with hq1 hq2
      subst hq1 hq2
      have HMM := Aside0.mk hM
      clear hnext hok hfl hpo hie hM HR0
      go_wp2_with (first | ((with_reducible refine gate_ (.store 31 (.tmp 4) (.tmp 24)) rfl ?_); go_must (refine step_put (.tmp 4) (.tmp 24) rfl rfl rfl st _ _ rfl rfl HR.out.b6 rfl rfl rfl ?_); intro w7 hw; have HA := Aside0.mk (HR.out.ans st HR.out.rn HR.out.rh); rw [← hw] at HA; clear hw))
      all_goals refine bodyPost_ret (results_ct rfl _ _ (w.heap.size + 1) 31 _ (0, 0) _ rfl HA.out.1 Try.underlying31 rfl rfl) (by rfl) ?_
      all_goals rw [HMM.out]
      all_goals exact HA.out.2
    case pos =>
      have hT : decide ((i : Int) < (b.length : Int)) = true := decide_eq_true (by omega)
      obtain ⟨ad, rfl, hcell⟩ := Kd.at_int (Kd.C_below HC.out HR.out.hb) (i : Int) (by omega) (by omega)
      rw [Int.toNat_natCast] at hcell
      have hx8 := H8.out _ (rd_in hi)
      have hnx := hnext _ (take_rd hi)
      obtain ⟨x, hx⟩ : ∃ x, rd b (i : Int) = x := ⟨_, rfl⟩
      rw [hx] at hcell hx8 hnx
      obtain ⟨⟨⟨st2, n2, h2⟩, E2⟩, hst⟩ : ∃ q, stepV ⟨st, n, h⟩ x = q := ⟨_, rfl⟩
      rw [hst] at hnx
      dsimp only at hnx
      obtain ⟨M2, hM2⟩ : ∃ M2, M ++ E2.map ev48 = M2 := ⟨_, rfl⟩
      have HNX := Aside0.mk (show feedV p (b.take (i + 1)) = (⟨st2, n2, h2⟩, O ++ E2) ∧ (O ++ E2).map ev48 = M2 from ⟨hnx, by rw [List.map_append, hM, hM2]⟩)
      have HX8 := Aside0.mk hx8
      have HST := Aside0.mk (And.intro hst hM2)
      clear hnext hok hfl hpo hx hnx hst hM hM2 hx8 HR0
      go_wp2
      refine start_ (n := 12) (S := fun w' => w'.cell? ⟨w.heap.size, 0, none⟩ = some (.int .i64 st) ∧ w'.cell? ⟨w.heap.size, 1, none⟩ = some (.slice An' n.length cn') ∧ w'.cell? ⟨w.heap.size, 2, none⟩ = some (.slice Ah' h.length ch') ∧ w'.cell? (ad.add i) = some (.int .u8 x)) (ds := [6, 10]) #[false, false, false, false, false, false, false, false, false, false, false, false] (by kernel_rfl) rfl rfl ⟨hc0, hc1, hc2, hcell⟩ (fun hHeld => ?_)
      refine pure_ (i := 1) (N := some 16) (v := ?_) (a' := ?_) #[false, true, false, false, false, false, false, false, false, false, false, false] rfl rfl (by kernel_rfl) (fun _ _ _ h => h) (Or.inl ⟨by rfl, ?_⟩) ?_ ?_
      rotate_left
      · intro w'
        go_simp
        with_reducible rfl
      rotate_left
      · simp only [Act.put, List.setIfInBounds_toArray, List.set_cons_zero, List.set_cons_succ, i64_w, i32_w]
        rfl
      refine pure_ (i := 2) (N := some 17) (v := ?_) (a' := ?_) #[false, true, true, false, false, false, false, false, false, false, false, false] rfl rfl (by kernel_rfl) (fun _ _ _ h => h) (Or.inl ⟨by rfl, ?_⟩) ?_ ?_
      rotate_left
      · intro w'
        go_simp
        with_reducible rfl
      rotate_left
      · simp only [Act.put, List.setIfInBounds_toArray, List.set_cons_zero, List.set_cons_succ, i64_w, i32_w]
        rfl
      refine pure_ (i := 3) (N := some 18) (v := ?_) (a' := ?_) #[false, true, true, true, false, false, false, false, false, false, false, false] rfl rfl (by kernel_rfl) (fun _ _ _ h => h) (Or.inl ⟨by rfl, ?_⟩) ?_ ?_
      rotate_left
      · intro w'
        go_simp
        with_reducible rfl
      rotate_left
      · simp only [Act.put, List.setIfInBounds_toArray, List.set_cons_zero, List.set_cons_succ, i64_w, i32_w]
        rfl
      refine pure_ (i := 4) (N := some 19) (v := ?_) (a' := ?_) #[false, true, true, true, true, false, false, false, false, false, false, false] rfl rfl (by kernel_rfl) (fun _ _ _ h => h) (Or.inl ⟨by rfl, ?_⟩) ?_ ?_
      rotate_left
      · intro w'
        go_simp
        with_reducible rfl
      rotate_left
      · simp only [Act.put, List.setIfInBounds_toArray, List.set_cons_zero, List.set_cons_succ, i64_w, i32_w]
        rfl
      refine take_ (i := 0) (N := some 15) (v := ?_) (a' := ?_) #[true, true, true, true, true, false, false, false, false, false, false, false] rfl rfl (by kernel_rfl) (fun _ _ _ h => h) (Or.inl ⟨by rfl, ?_⟩) hHeld ?_ ?_
      rotate_left
      · rintro w' ⟨s0, s1, s2, s3⟩
        go_simp
        with_reducible rfl
      rotate_left
      · simp only [Act.put, List.setIfInBounds_toArray, List.set_cons_zero, List.set_cons_succ, i64_w, i32_w]
        rfl
      refine take_ (i := 5) (N := some 20) (v := ?_) (a' := ?_) #[true, true, true, true, true, true, false, false, false, false, false, false] rfl rfl (by kernel_rfl) (fun _ _ _ h => h) (Or.inl ⟨by rfl, ?_⟩) hHeld ?_ ?_
      rotate_left
      · rintro w' ⟨s0, s1, s2, s3⟩
        go_simp
        with_reducible rfl
      rotate_left
      · simp only [Act.put, List.setIfInBounds_toArray, List.set_cons_zero, List.set_cons_succ, i64_w, i32_w]
        rfl
      refine last_ (i := 6) (N := some 21) #[true, true, true, true, true, true, true, false, false, false, false, false] rfl rfl (by kernel_rfl) (by decide) (fun K hK => ?_)
      refine goes_ Try.func20 (by kernel_rfl) rfl #[.agg #[.int .i64 st, .slice An' n.length cn', .slice Ah' h.length ch'], .slice Ao' M.length co', .int .u8 x] (by rfl) rfl rfl (by first | (simp only [List.map_toArray, List.map_cons, List.map_nil]; done) | (simp only [List.map_toArray, List.map_cons, List.map_nil]; rfl)) ?_
      with_reducible refine (Step_any _ st n h _ An' cn' Ah' ch' Ao' co' M x (fun k => okS P w k ∧ k < wr.heap.size) HOK.out (by have := HM.out; omega) (HR.out.rn.bound.below (show Below wr.heap.size wr _ from (by repeat (first | exact Below.refl _ _ | apply below_alloc | apply pw_below_drewN | apply below_drew1 | (refine Below.setCell ?_ (by simp) _))))) (HR.out.rh.bound.below (show Below wr.heap.size wr _ from (by repeat (first | exact Below.refl _ _ | apply below_alloc | apply pw_below_drewN | apply below_drew1 | (refine Below.setCell ?_ (by simp) _))))) (HR.out.ro.bound.below (show Below wr.heap.size wr _ from (by repeat (first | exact Below.refl _ _ | apply below_alloc | apply pw_below_drewN | apply below_drew1 | (refine Below.setCell ?_ (by simp) _))))) HML.out HX8.out HST.out.1 HST.out.2).mono ?_
      rintro e w5 ⟨vn5, vh5, vo5, rfl, hn5, hh5, ho5, hb5⟩
      refine ⟨_, rfl, ?_⟩
      have HB5 := Aside0.mk (show Below wr.heap.size wr w5 from below_step (by repeat (first | exact Below.refl _ _ | apply below_alloc | apply pw_below_drewN | apply below_drew1 | (refine Below.setCell ?_ (by simp) _))) hb5)
      have HOKK := Aside0.mk (HR.out.sz)
      have H5 := Aside0.mk (And.intro (hn5.mono (ok' := okS P w) (fun k hk => okS_of HOKK.out (Nat.le_refl _) hk)) (And.intro (hh5.mono (ok' := okS P w) (fun k hk => okS_of HOKK.out (Nat.le_refl _) hk)) (ho5.mono (ok' := okS P w) (fun k hk => okS_of HOKK.out (Nat.le_refl _) hk))))
      obtain ⟨A5, c5, rfl, -, -⟩ := hn5
      obtain ⟨A6, c6, rfl, -, -⟩ := hh5
      obtain ⟨A7, c7, rfl, -, -⟩ := ho5
      clear hb5
      refine hK.out _ _ ?_
      clear hK K
      refine norm_ (a' := ?_) ?_ ?_
      rotate_left
      · show Act.put _ (some 21) _ = _
        simp only [Act.put, List.setIfInBounds_toArray, List.set_cons_zero, List.set_cons_succ, i64_w, i32_w]
        rfl
      refine pure_ (i := 7) (N := some 14) (v := ?_) (a' := ?_) #[true, true, true, true, true, true, true, true, false, false, false, false] rfl rfl (by kernel_rfl) (fun _ _ _ h => h) (Or.inl ⟨by rfl, ?_⟩) ?_ ?_
      rotate_left
      · intro w'
        go_simp
        with_reducible rfl
      rotate_left
      · simp only [Act.put, List.setIfInBounds_toArray, List.set_cons_zero, List.set_cons_succ, i64_w, i32_w]
        rfl
      refine pure_ (i := 8) (N := some 22) (v := ?_) (a' := ?_) #[true, true, true, true, true, true, true, true, true, false, false, false] rfl rfl (by kernel_rfl) (fun _ _ _ h => h) (Or.inl ⟨by rfl, ?_⟩) ?_ ?_
      rotate_left
      · intro w'
        go_simp
        with_reducible rfl
      rotate_left
      · simp only [Act.put, List.setIfInBounds_toArray, List.set_cons_zero, List.set_cons_succ, i64_w, i32_w]
        rfl
      refine pure_ (i := 9) (N := some 23) (v := ?_) (a' := ?_) #[true, true, true, true, true, true, true, true, true, true, false, false] rfl rfl (by kernel_rfl) (fun _ _ _ h => h) (Or.inl ⟨by rfl, ?_⟩) ?_ ?_
      rotate_left
      · intro w'
        go_simp
        with_reducible rfl
      rotate_left
      · simp only [Act.put, List.setIfInBounds_toArray, List.set_cons_zero, List.set_cons_succ, i64_w, i32_w]
        rfl
      refine last_ (i := 10) (N := none) #[true, true, true, true, true, true, true, true, true, true, true, false] rfl rfl (by kernel_rfl) (by decide) (fun K hK => ?_)
      refine skip_ (w1 := pOut w5 w.heap.size st2 (.slice A5 n2.length c5) (.slice A6 h2.length c6)) (by rfl) rfl (exec_put (.tmp 2) (.tmp 22) rfl st2 _ _ rfl rfl (HR.out.below HB5.out).b3 rfl rfl rfl) ?_
      have H9 := Aside0.mk (((HR.out.below HB5.out).out H5.out.2.2).whole st2 H5.out.1 H5.out.2.1)
      refine hK.out _ _ ?_
      clear hK K
      refine pure_ (i := 11) (N := some 6) (v := ?_) (a' := ?_) #[true, true, true, true, true, true, true, true, true, true, true, true] rfl rfl (by kernel_rfl) (fun _ _ _ h => h) (Or.inl ⟨by rfl, ?_⟩) ?_ ?_
      rotate_left
      · intro w'
        go_simp
        with_reducible rfl
      rotate_left
      · simp only [Act.put, List.setIfInBounds_toArray, List.set_cons_zero, List.set_cons_succ, i64_w, i32_w]
        rfl
      refine done_ (by kernel_rfl) ?_
      all_goals go_wp2
      all_goals go_roundg (gk - 1)
      case measure => have := HK.out; omega
      case rel => exact ⟨i + 1, _, _, by go_num, ⟨by have := HK.out; omega, by omega⟩, ⟨by rw [HNX.out.1]; dsimp only; rw [HNX.out.2]; exact H9.out⟩⟩
theorem RFlush_any (w : World) (p : PP) (vn vh : Value) (hn : RD (Kd.int .i64) w (fun _ => True) vn p.n) (hh : RD (Kd.int .u8) w (fun _ => True) vh p.h) :
    Calls Try.prog 12 #[.agg #[.int .i64 p.st, vn, vh]] w fun e w' => ∃ vh' Ao co, e = .returned (.tuple #[.agg #[.int .i64 0, vn, vh'], .slice Ao (flushV p.h).length co]) ∧ RD (Kd.int .u8) w' (fun _ => True) vh' [] ∧ Kd.F kE8 w' (fun k => w.heap.size ≤ k) Ao (flushV p.h).length ((flushV p.h).map ev48) ∧ (flushV p.h).length ≤ co ∧ Below w.heap.size w w' := by
  obtain ⟨An, cn, rfl, hcn, hFn⟩ := hn
  obtain ⟨Ah, ch, rfl, hch, hFh⟩ := hh
  refine (prolepsisref08_Flush.calls p.st An cn p.n Ah ch p.h 0 [] ((flushV p.h).map ev48) w (Kd.F_now hFn) hcn (Kd.F_now hFh) hch (by unfold prolepsisref08_Flush.f; rw [flush_f p.st p.n p.h [] (by simp)]; simp)).mono ?_
  rintro e w' ⟨v1, v2, rfl, hR, hV, hb⟩
  obtain ⟨A2, c2, rfl, hc2, hF2⟩ := hV
  rw [List.length_map] at hc2 hF2
  exact ⟨v1, A2, c2, by rw [List.length_map], (RD.ofR hR).mono (fun _ _ => trivial), Kd.F_mono hF2 (fun k hk => hk.1), hc2, hb⟩
theorem RRest_any (w : World) (p : PP) (vn vh : Value) (hn : RD (Kd.int .i64) w (fun _ => True) vn p.n) (hh : RD (Kd.int .u8) w (fun _ => True) vh p.h) {r : Bool} (hr : restV p = r) :
    Calls Try.prog 11 #[.agg #[.int .i64 p.st, vn, vh]] w fun e w' => e = .returned (.bool r) ∧ Below w.heap.size w w' := by
  obtain ⟨An, cn, rfl, hcn, hFn⟩ := hn
  obtain ⟨Ah, ch, rfl, hch, hFh⟩ := hh
  refine prolepsisref08_Rest.calls p.st An cn p.n Ah ch p.h r w (Kd.F_now hFn) hcn (Kd.F_now hFh) hch ?_
  unfold prolepsisref08_Rest.f
  rw [← hr]
  unfold restV
  by_cases h0 : p.st = 0
  · rw [if_pos h0, decide_eq_true h0, Bool.true_and]
    congr 1
    by_cases h : p.h = []
    · rw [h]; rfl
    · rw [decide_eq_false h, beq_eq_false_iff_ne]; have := List.length_pos_iff.2 h; omega
  · rw [if_neg h0, decide_eq_false h0, Bool.false_and]
end Go.Proofs.Ytlllbaieidbcdaa.Str
