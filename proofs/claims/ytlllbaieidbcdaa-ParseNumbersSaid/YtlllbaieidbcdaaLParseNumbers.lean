/- ParseNumbers holds: numbers of events, and which are the same. No condition. -/
import Derived.Test.YtlllbaieidbcdaaRows
import Derived.Test.YtlllbaieidbcdaaPaM
import Derived.ProofKit
import Derived.OpenShut
namespace Go.Proofs.Ytlllbaieidbcdaa
open Go.ChangeShapes Go.WideShapes Go.ChangeAt Go.RowKit Go.Proofs.YtlllbaieidbcdaaW.PrintWords Go.Proofs.YtlllbaieidbcdaaW.PrintLast Go.Proofs.YtlllbaieidbcdaaW.PrintMore Go.Proofs.Ytlllbaieidbcdaa.PParseEvents Go.Proofs.Ytlllbaieidbcdaa.Str
set_option linter.unusedVariables false
set_option linter.unusedSimpArgs false
theorem infoE8 : (Try.prog.info? 48).map (fun i => (i.zero, i.size, i.bytes)) = some (some (.agg #[.int .i64 0, .int .i64 0, .slice none 0 0]), 3, 40) := by kernel_rfl
theorem ev48_inj {x y : S46} (h : ev48 x = ev48 y) : x = y := by
  simp only [ev48] at h
  injection h with h0 h1 h2
  exact ev_eq.2 ⟨h0, h1, h2⟩
theorem ev48_map {a b : List S46} : a.map ev48 = b.map ev48 ↔ a = b := ⟨fun h => List.map_inj_right (fun _ _ => ev48_inj) |>.1 h, fun h => by rw [h]⟩
theorem C_lens {W : World} {A : Option Addr} {l : List S46} (h : Kd.C kEv W A l.length l) : ∀ x ∈ l, x.f2.length ≤ 9223372036854775807 := by
  intro x hx
  obtain ⟨j, hj, rfl⟩ := List.getElem_of_mem hx
  obtain ⟨ad, A2, c2, -, -, -, -, -, hA⟩ := at_T46 h (j : Int) (by omega) (by omega)
  have e : rd_T46 l (j : Int) = l[j] := by simp [rd_T46, List.getD_eq_getElem?_getD, hj]
  rw [e] at hA
  exact hA.2.1
theorem SameL (A : Option Addr) (c : Nat) (a : List S46) (A' : Option Addr) (c' : Nat) (b : List S46) (W : World) (hC : Kd.C kEv W A a.length a) (hc : a.length ≤ c) (hC' : Kd.C k48 W A' b.length (b.map ev48)) (hc' : b.length ≤ c') (hs : smallEv a 9223372036854775807) (hla : a.length ≤ 1000000) {q : Bool} (hr : decide (a.map ev48 = b.map ev48) = q) :
    Calls Try.prog 8 #[.slice A a.length c, .slice A' b.length c'] W fun e w' => e = .returned (.bool q) ∧ Below W.heap.size W w' := by
  have e : b.length = (b.map ev48).length := (List.length_map ..).symm
  rw [e] at hC' hc' ⊢
  exact Same_ev A c a A' c' (b.map ev48) W hC hc hC' hc' _ (Nat.le_refl _) hs hla hr
set_option maxRecDepth 100000 in
set_option maxHeartbeats 8000000 in
theorem walk_PN (k r : Int) (A : Option Addr) (c : Nat) (n : List Int) (i0 none0 : Int) (Aa : Option Addr) (ca : Nat) (la : List S46) (Ab : Option Addr) (cb : Nat) (lb : List S46) (w : World)
    (hr : -2147483648 ≤ r ∧ r ≤ 2147483647) (hC : Kd.C (Kd.int .i64) w A n.length n) (hc : n.length ≤ c) (hCa : Kd.C kEv w Aa la.length la) (hca : la.length ≤ ca) (hCb : Kd.C kEv w Ab lb.length lb) (hcb : lb.length ≤ cb) (hsa : ∀ x ∈ la, -2147483648 ≤ x.f1 ∧ x.f1 ≤ 2147483647) (hsb : ∀ x ∈ lb, -2147483648 ≤ x.f1 ∧ x.f1 ≤ 2147483647) :
    Calls Try.prog 4 #[.agg #[.int .i64 k, .int .i32 r, .slice A n.length c], .int .i64 i0, .int .i64 none0, .slice Aa la.length ca, .slice Ab lb.length cb] w fun e w' => e = .returned (.bool true) ∧ Below w.heap.size w w' := by
  -- the cuts
  obtain ⟨n1, hn1⟩ : ∃ n1, n1 = min n.length 20 := ⟨_, rfl⟩
  obtain ⟨a1, ha1⟩ : ∃ a1, a1 = min la.length 10 := ⟨_, rfl⟩
  obtain ⟨b1, hb1⟩ : ∃ b1, b1 = min lb.length 10 := ⟨_, rfl⟩
  have hm1 : (if (20 : Int) < (n.length : Int) then (20 : Int) else (n.length : Int)) = (n1 : Int) := by split <;> omega
  have hm2 : (if (10 : Int) < (la.length : Int) then (10 : Int) else (la.length : Int)) = (a1 : Int) := by split <;> omega
  have hm3 : (if (10 : Int) < (lb.length : Int) then (10 : Int) else (lb.length : Int)) = (b1 : Int) := by split <;> omega
  obtain ⟨hcut1, hread1, hlen1⟩ := cut_take (P := Try.prog) (Kd.int .i64) 26 3 .i64 Try.underlying26 info3p A c n (n1 : Int) (by omega) (by omega) hc
  obtain ⟨hcut2, hread2, hlen2⟩ := cut_take (P := Try.prog) kEv 38 46 .i64 Try.underlying38 infoEv Aa ca la (a1 : Int) (by omega) (by omega) hca
  obtain ⟨hcut3, hread3, hlen3⟩ := cut_take (P := Try.prog) kEv 38 46 .i64 Try.underlying38 infoEv Ab cb lb (b1 : Int) (by omega) (by omega) hcb
  have hC1 := hread1 w hC
  have hC2 := hread2 w hCa
  have hC3 := hread3 w hCb
  simp only [Int.toNat_natCast] at hcut1 hcut2 hcut3 hC1 hC2 hC3 hlen1 hlen2 hlen3
  have hl2 : (la.take a1).length ≤ 10 := by rw [List.length_take]; omega
  have hl3 : (lb.take b1).length ≤ 10 := by rw [List.length_take]; omega
  have hs2 : smallEv (la.take a1) 9223372036854775807 := fun x hx => ⟨hsa x (List.mem_of_mem_take hx), C_lens hC2 x hx⟩
  have hs3 : smallEv (lb.take b1) 9223372036854775807 := fun x hx => ⟨hsb x (List.mem_of_mem_take hx), C_lens hC3 x hx⟩
  obtain ⟨T, hT⟩ : ∃ T, n.take n1 = T := ⟨_, rfl⟩
  obtain ⟨TA, hTA⟩ : ∃ T, la.take a1 = T := ⟨_, rfl⟩
  obtain ⟨TB, hTB⟩ : ∃ T, lb.take b1 = T := ⟨_, rfl⟩
  rw [hT] at hcut1 hC1 hlen1
  rw [hTA] at hcut2 hC2 hlen2 hl2 hs2
  rw [hTB] at hcut3 hC3 hlen3 hl3 hs3
  obtain ⟨v, hv⟩ : ∃ v, numV T i0 none0 = v := ⟨_, rfl⟩
  obtain ⟨q, hq⟩ : ∃ q, decide (TA = TB) = q := ⟨_, rfl⟩
  have HC := Aside0.mk (And.intro hC1 (And.intro hC2 hC3))
  have HL := Aside0.mk (And.intro hl2 (And.intro hl3 (And.intro hlen1 (And.intro hlen2 hlen3))))
  have HS := Aside0.mk (And.intro hs2 hs3)
  have HSL := Aside0.mk (And.intro (show ∀ x ∈ TA, x.f2.length ≤ 9223372036854775807 from fun x hx => (hs2 x hx).2) (show ∀ x ∈ TB, x.f2.length ≤ 9223372036854775807 from fun x hx => (hs3 x hx).2))
  have HV := Aside0.mk hv
  have HQ := Aside0.mk hq
  have HQ2 := Aside0.mk (show decide (TA.map ev48 = TB.map ev48) = q by rw [← hq, decide_eq_decide]; exact ev48_map)
  have HR := Aside0.mk hr
  clear hread1 hread2 hread3 hT hTA hTB hC hCa hCb hC1 hC2 hC3 hsa hsb hs2 hs3 hlen1 hlen2 hlen3 hl2 hl3 hc hca hcb hn1 ha1 hb1 hv hq hr
  go_enter Try.func4, Try.ntmps4
  go_wp2
  go_quiet (fail)
  go_wp2
  go_loopg [11, 12] (TB.length + 1) (fun kq v11 v12 w' => ∃ (i : Nat), v12 = .int .i64 i ∧ Aside0 (kq + i = TB.length + 1 ∧ i ≤ TB.length) ∧ Aside0 (w'.heap[w.heap.size]? = some (.cells #[.int .i64 k, .int .i32 r, .slice A T.length c] 46 (0, 0))) ∧ Aside0 (Below w.heap.size w w') ∧ Aside0 (Kd.N k48 48 w' (w.heap.size + 1) (fun _ => True) v11 ((TB.take i).map ev48)))
  case atStart => exact ⟨0, rfl, ⟨by omega, by omega⟩, ⟨blk_drewN (blk_new w _) nq⟩, ⟨pw_below_drewN (below_alloc (Below.refl _ _) _) nq⟩, ⟨by simpa using Kd.N_nil _ _ _ _ _⟩⟩
  case round =>
    obtain ⟨i, rfl, HK, HX, HB, HN⟩ := hrel
    have hOv := Kd.N_slice HN.out
    obtain ⟨hx0, hx1, hx2, -, -, -⟩ : wr.cell? ⟨w.heap.size, 0, none⟩ = some (.int .i64 k) ∧ wr.cell? ⟨w.heap.size, 1, none⟩ = some (.int .i32 r) ∧ wr.cell? ⟨w.heap.size, 2, none⟩ = some (.slice A T.length c) ∧ True ∧ True ∧ True := ⟨(blk_cell HX.out 0).trans rfl, (blk_cell HX.out 1).trans rfl, (blk_cell HX.out 2).trans rfl, trivial, trivial, trivial⟩
    have hbl : TB.length ≤ 10 := HL.out.2.1
    by_cases hi : i < TB.length
    · have hT1 : decide ((i : Int) < (TB.length : Int)) = true := decide_eq_true (by omega)
      have hxl : rd_T46 TB (i : Int) ∈ TB := by simp [rd_T46, List.getD_eq_getElem?_getD, hi]
      obtain ⟨ad, A2, c2, rfl, ha0, ha1, ha2, hac, hA'⟩ := at_T46 HC.out.2.2 (i : Int) (by omega) (by omega)
      rw [Int.toNat_natCast] at ha0 ha1 ha2
      have ha0 := cell_kept ha0 (Kept.of_below HB.out (fun _ => False)) id
      have ha1 := cell_kept ha1 (Kept.of_below HB.out (fun _ => False)) id
      have ha2 := cell_kept ha2 (Kept.of_below HB.out (fun _ => False)) id
      have htm : (TB.take (i + 1)).map ev48 = (TB.take i).map ev48 ++ [ev48 (rd_T46 TB (i : Int))] := by rw [take_at z46 hi, List.map_append]; rfl
      have hsx := (HS.out.2 _ hxl).1
      obtain ⟨x, hx⟩ : ∃ x, rd_T46 TB (i : Int) = x := ⟨_, rfl⟩
      rw [hx] at ha0 ha1 ha2 hac hA' htm hsx
      obtain ⟨O, hO⟩ : ∃ O, (TB.take i).map ev48 = O := ⟨_, rfl⟩
      have hOl : O.length ≤ 10 := by rw [← hO, List.length_map, List.length_take]; have := HL.out; omega
      rw [hO] at htm hOv
      have hNn := HN.out
      rw [hO] at hNn
      have HNN := Aside0.mk hNn
      have HTM := Aside0.mk htm
      have HXX := Aside0.mk (And.intro hA' (And.intro hac (And.intro hsx hOl)))
      obtain ⟨Ao, co, rfl⟩ := hOv
      clear hx hxl hA' htm hac hsx hO hOl hNn HN
      go_wp2_with (first | (go_at_call 15; go_must (refine (Of_any x.f0 x.f1 (.slice A2 x.f2.length c2) ⟨_, _, _, rfl⟩ _ HXX.out.2.2.1).mono ?_); rintro e w1 ⟨rfl, hb⟩; have H1 := Aside0.mk hb; clear hb) | ((with_reducible refine gate_builtin (b := .append) (xs := #[.tmp 37, .tmp 43]) rfl ?_); go_must (at_builtin); go_must (refine Kd.N_append k48 (w0 := w1) (w.heap.size + 1) rfl (.tmp 37) (.tmp 43) 32 48 _ 40 rfl Try.underlying32 infoE8 rfl (by decide) (by omega) (.slice Ao O.length co) O (ev48 x) [.int .i64 x.f0, .int .i64 x.f1, .slice A2 x.f2.length c2] (fun _ => True) (fun k => k < w.heap.size) rfl rfl ?aP ?aK (fun _ _ => trivial) (Kd.N_below HNN.out H1.out) (Below.refl _ _) ?aS (by have := HXX.out.2.2.2; omega) ?_); (case aP => exact k48_mkF _ _ (ev48 x) HXX.out.2.1 (Kd.F_below (Kd.C_F (Kd.heap_int .i64) HXX.out.1) (below_then HB.out HB.out.size H1.out))); (case aK => exact fun k hk => ⟨trivial, fun h => by have := Kd.N_base HNN.out k h.symm; omega⟩); (case aS => exact Nat.le_trans (blk_lt HX.out) H1.out.size); intro v4 w4 ho hb hg hat; rw [← HTM.out] at ho; have H4 := Aside0.mk (And.intro ho (And.intro ((hb.block _ (Nat.lt_succ_self _)).trans (blk_below HX.out H1.out)) ((below_then HB.out HB.out.size H1.out).trans (hb.mono (Nat.le_succ _))))); clear ho hb hg hat))
      go_roundg (gk - 1)
      case measure => have := HK.out; omega
      case rel => exact ⟨i + 1, by go_num, ⟨by have := HK.out; omega, by omega⟩, ⟨H4.out.2.1⟩, ⟨H4.out.2.2⟩, ⟨H4.out.1⟩⟩
    · have hT1 : decide ((i : Int) < (TB.length : Int)) = false := decide_eq_false (by omega)
      have hie : i = TB.length := by have := HK.out; omega
      have HNN := Aside0.mk (show Kd.N k48 48 wr (w.heap.size + 1) (fun _ => True) u11 (TB.map ev48) by have := HN.out; rwa [hie, List.take_of_length_le (Nat.le_refl _)] at this)
      obtain ⟨Aw, cw, rfl, hcw, hCw⟩ := Kd.N_reads HNN.out
      rw [List.length_map] at hcw hCw
      have HW := Aside0.mk (And.intro hcw hCw)
      have hwl : (TB.map ev48).length = TB.length := List.length_map ..
      clear HN HNN hcw hCw hOv hie
      rw [hwl]
      clear hwl
      go_wp2
      refine start_ (n := 28) (S := fun w' => w'.cell? ⟨w.heap.size, 0, none⟩ = some (.int .i64 k) ∧ w'.cell? ⟨w.heap.size, 1, none⟩ = some (.int .i32 r) ∧ w'.cell? ⟨w.heap.size, 2, none⟩ = some (.slice A T.length c)) (ds := []) #[false, false, false, false, false, false, false, false, false, false, false, false, false, false, false, false, false, false, false, false, false, false, false, false, false, false, false, false] (by kernel_rfl) rfl rfl ⟨hx0, hx1, hx2⟩ (fun hHeld => ?_)
      refine one_ (i := 0) (N := some 45) #[true, false, false, false, false, false, false, false, false, false, false, false, false, false, false, false, false, false, false, false, false, false, false, false, false, false, false, false] rfl rfl (by kernel_rfl) (by decide) (fun K hK => ?_)
      refine goes_ Try.func13 (by kernel_rfl) rfl #[] (by rfl) rfl rfl (by first | (simp only [List.map_toArray, List.map_cons, List.map_nil]; done) | (simp only [List.map_toArray, List.map_cons, List.map_nil]; rfl)) ?_
      with_reducible refine (known8 _).mono ?_
      rintro e w2 ⟨rfl, hb⟩
      refine ⟨_, rfl, ?_⟩
      have H2 := Aside0.mk (show Below wr.heap.size wr w2 from below_step (by repeat (first | exact Below.refl _ _ | apply below_alloc | apply pw_below_drewN | apply below_drew1 | (refine Below.setCell ?_ (by simp) _))) hb)
      have hy := blk_below HX.out H2.out
      have hy0 := (blk_cell hy 0).trans (rfl : _ = some (Value.int .i64 k))
      have hy1 := (blk_cell hy 1).trans (rfl : _ = some (Value.int .i32 r))
      have hy2 := (blk_cell hy 2).trans (rfl : _ = some (Value.slice A T.length c))
      clear hb hy
      refine hK.out _ _ ⟨hy0, hy1, hy2⟩ (fun hHeld => ?_)
      clear hK K
      refine norm_ (a' := ?_) ?_ ?_
      rotate_left
      · show Act.put _ (some 45) _ = _
        simp only [Act.put, List.setIfInBounds_toArray, List.set_cons_zero, List.set_cons_succ, i64_w, i32_w]
        rfl
      refine pure_ (i := 1) (N := some 46) (v := ?_) (a' := ?_) #[true, true, false, false, false, false, false, false, false, false, false, false, false, false, false, false, false, false, false, false, false, false, false, false, false, false, false, false] rfl rfl (by kernel_rfl) (fun _ _ _ h => h) (Or.inl ⟨by rfl, ?_⟩) ?_ ?_
      rotate_left
      · intro w'
        go_simp
        with_reducible rfl
      rotate_left
      · simp only [Act.put, List.setIfInBounds_toArray, List.set_cons_zero, List.set_cons_succ, i64_w, i32_w]
        rfl
      refine pure_ (i := 3) (N := some 48) (v := ?_) (a' := ?_) #[true, true, false, true, false, false, false, false, false, false, false, false, false, false, false, false, false, false, false, false, false, false, false, false, false, false, false, false] rfl rfl (by kernel_rfl) (fun _ _ _ h => h) (Or.inl ⟨by rfl, ?_⟩) ?_ ?_
      rotate_left
      · intro w'
        go_simp
        with_reducible rfl
      rotate_left
      · simp only [Act.put, List.setIfInBounds_toArray, List.set_cons_zero, List.set_cons_succ, i64_w, i32_w]
        rfl
      refine pure_ (i := 4) (N := some 49) (v := ?_) (a' := ?_) #[true, true, false, true, true, false, false, false, false, false, false, false, false, false, false, false, false, false, false, false, false, false, false, false, false, false, false, false] rfl rfl (by kernel_rfl) (fun _ _ _ h => h) (Or.inl ⟨by rfl, ?_⟩) ?_ ?_
      rotate_left
      · intro w'
        go_simp
        with_reducible rfl
      rotate_left
      · simp only [Act.put, List.setIfInBounds_toArray, List.set_cons_zero, List.set_cons_succ, i64_w, i32_w]
        rfl
      refine pure_ (i := 8) (N := some 53) (v := ?_) (a' := ?_) #[true, true, false, true, true, false, false, false, true, false, false, false, false, false, false, false, false, false, false, false, false, false, false, false, false, false, false, false] rfl rfl (by kernel_rfl) (fun _ _ _ h => h) (Or.inl ⟨by rfl, ?_⟩) ?_ ?_
      rotate_left
      · intro w'
        go_simp
        with_reducible rfl
      rotate_left
      · simp only [Act.put, List.setIfInBounds_toArray, List.set_cons_zero, List.set_cons_succ, i64_w, i32_w]
        rfl
      refine pure_ (i := 9) (N := some 54) (v := ?_) (a' := ?_) #[true, true, false, true, true, false, false, false, true, true, false, false, false, false, false, false, false, false, false, false, false, false, false, false, false, false, false, false] rfl rfl (by kernel_rfl) (fun _ _ _ h => h) (Or.inl ⟨by rfl, ?_⟩) ?_ ?_
      rotate_left
      · intro w'
        go_simp
        with_reducible rfl
      rotate_left
      · simp only [Act.put, List.setIfInBounds_toArray, List.set_cons_zero, List.set_cons_succ, i64_w, i32_w]
        rfl
      refine take_ (i := 2) (N := some 47) (v := ?_) (a' := ?_) #[true, true, true, true, true, false, false, false, true, true, false, false, false, false, false, false, false, false, false, false, false, false, false, false, false, false, false, false] rfl rfl (by kernel_rfl) (fun _ _ _ h => h) (Or.inl ⟨by rfl, ?_⟩) hHeld ?_ ?_
      rotate_left
      · rintro w' ⟨s0, s1, s2⟩
        go_simp
        with_reducible rfl
      rotate_left
      · simp only [Act.put, List.setIfInBounds_toArray, List.set_cons_zero, List.set_cons_succ, i64_w, i32_w]
        rfl
      refine take_ (i := 6) (N := some 51) (v := ?_) (a' := ?_) #[true, true, true, true, true, false, true, false, true, true, false, false, false, false, false, false, false, false, false, false, false, false, false, false, false, false, false, false] rfl rfl (by kernel_rfl) (fun _ _ _ h => h) (Or.inl ⟨by rfl, ?_⟩) hHeld ?_ ?_
      rotate_left
      · rintro w' ⟨s0, s1, s2⟩
        go_simp
        with_reducible rfl
      rotate_left
      · simp only [Act.put, List.setIfInBounds_toArray, List.set_cons_zero, List.set_cons_succ, i64_w, i32_w]
        rfl
      refine one_ (i := 5) (N := some 50) #[true, true, true, true, true, true, true, false, true, true, false, false, false, false, false, false, false, false, false, false, false, false, false, false, false, false, false, false] rfl rfl (by kernel_rfl) (by decide) (fun K hK => ?_)
      refine goes_ Try.func16 (by kernel_rfl) rfl #[.agg #[.int .i64 k, .int .i32 r, .slice A T.length c], .int .i64 i0, .int .i64 none0] (by rfl) rfl rfl (by first | (simp only [List.map_toArray, List.map_cons, List.map_nil]; done) | (simp only [List.map_toArray, List.map_cons, List.map_nil]; rfl)) ?_
      with_reducible refine (Number_any k r A c T i0 none0 _ (Kd.C_below HC.out.1 (below_then HB.out HB.out.size H2.out)) HV.out).mono ?_
      rintro e w3 ⟨rfl, hb⟩
      refine ⟨_, rfl, ?_⟩
      have H3 := Aside0.mk (below_then H2.out H2.out.size hb)
      have hy := blk_below HX.out H3.out
      have hy0 := (blk_cell hy 0).trans (rfl : _ = some (Value.int .i64 k))
      have hy1 := (blk_cell hy 1).trans (rfl : _ = some (Value.int .i32 r))
      have hy2 := (blk_cell hy 2).trans (rfl : _ = some (Value.slice A T.length c))
      clear hb hy
      refine hK.out _ _ ⟨hy0, hy1, hy2⟩ (fun hHeld => ?_)
      clear hK K
      refine norm_ (a' := ?_) ?_ ?_
      rotate_left
      · show Act.put _ (some 50) _ = _
        simp only [Act.put, List.setIfInBounds_toArray, List.set_cons_zero, List.set_cons_succ, i64_w, i32_w]
        rfl
      refine one_ (i := 7) (N := some 52) #[true, true, true, true, true, true, true, true, true, true, false, false, false, false, false, false, false, false, false, false, false, false, false, false, false, false, false, false] rfl rfl (by kernel_rfl) (by decide) (fun K hK => ?_)
      refine goes_ Try.func15 (by kernel_rfl) rfl #[.agg #[.int .i64 k, .int .i32 r, .slice A T.length c]] (by rfl) rfl rfl (by first | (simp only [List.map_toArray, List.map_cons, List.map_nil]; done) | (simp only [List.map_toArray, List.map_cons, List.map_nil]; rfl)) ?_
      with_reducible refine (Of_any k r (.slice A T.length c) ⟨_, _, _, rfl⟩ _ HR.out).mono ?_
      rintro e w4 ⟨rfl, hb⟩
      refine ⟨_, rfl, ?_⟩
      have H4 := Aside0.mk (below_then H3.out H3.out.size hb)
      have hy := blk_below HX.out H4.out
      have hy0 := (blk_cell hy 0).trans (rfl : _ = some (Value.int .i64 k))
      have hy1 := (blk_cell hy 1).trans (rfl : _ = some (Value.int .i32 r))
      have hy2 := (blk_cell hy 2).trans (rfl : _ = some (Value.slice A T.length c))
      clear hb hy
      refine hK.out _ _ ⟨hy0, hy1, hy2⟩ (fun hHeld => ?_)
      clear hK K
      refine norm_ (a' := ?_) ?_ ?_
      rotate_left
      · show Act.put _ (some 52) _ = _
        simp only [Act.put, List.setIfInBounds_toArray, List.set_cons_zero, List.set_cons_succ, i64_w, i32_w]
        rfl
      refine one_ (i := 10) (N := some 55) #[true, true, true, true, true, true, true, true, true, true, true, false, false, false, false, false, false, false, false, false, false, false, false, false, false, false, false, false] rfl rfl (by kernel_rfl) (by decide) (fun K hK => ?_)
      refine goes_ Try.func17 (by kernel_rfl) rfl #[.agg #[.int .i64 k, .int .i64 r, .slice A T.length c], .int .i64 i0, .int .i64 none0] (by rfl) rfl rfl (by first | (simp only [List.map_toArray, List.map_cons, List.map_nil]; done) | (simp only [List.map_toArray, List.map_cons, List.map_nil]; rfl)) ?_
      with_reducible refine (RNumber_any k r A c T i0 none0 _ (Kd.C_below HC.out.1 (below_then HB.out HB.out.size H4.out)) HV.out).mono ?_
      rintro e w5 ⟨rfl, hb⟩
      refine ⟨_, rfl, ?_⟩
      have H5 := Aside0.mk (below_then H4.out H4.out.size hb)
      have hy := blk_below HX.out H5.out
      have hy0 := (blk_cell hy 0).trans (rfl : _ = some (Value.int .i64 k))
      have hy1 := (blk_cell hy 1).trans (rfl : _ = some (Value.int .i32 r))
      have hy2 := (blk_cell hy 2).trans (rfl : _ = some (Value.slice A T.length c))
      clear hb hy
      refine hK.out _ _ ⟨hy0, hy1, hy2⟩ (fun hHeld => ?_)
      clear hK K
      refine norm_ (a' := ?_) ?_ ?_
      rotate_left
      · show Act.put _ (some 55) _ = _
        simp only [Act.put, List.setIfInBounds_toArray, List.set_cons_zero, List.set_cons_succ, i64_w, i32_w]
        rfl
      refine pure_ (i := 11) (N := some 56) (v := ?_) (a' := ?_) #[true, true, true, true, true, true, true, true, true, true, true, true, false, false, false, false, false, false, false, false, false, false, false, false, false, false, false, false] rfl rfl (by kernel_rfl) (fun _ _ _ h => h) (Or.inl ⟨by rfl, ?_⟩) ?_ ?_
      rotate_left
      · intro w'
        go_simp
        with_reducible rfl
      rotate_left
      · simp only [Act.put, List.setIfInBounds_toArray, List.set_cons_zero, List.set_cons_succ, i64_w, i32_w]
        rfl
      refine pure_ (i := 12) (N := some 57) (v := ?_) (a' := ?_) #[true, true, true, true, true, true, true, true, true, true, true, true, true, false, false, false, false, false, false, false, false, false, false, false, false, false, false, false] rfl rfl (by kernel_rfl) (fun _ _ _ h => h) (Or.inl ⟨by rfl, ?_⟩) ?_ ?_
      rotate_left
      · intro w'
        go_simp
        with_reducible rfl
      rotate_left
      · simp only [Act.put, List.setIfInBounds_toArray, List.set_cons_zero, List.set_cons_succ, i64_w, i32_w]
        rfl
      refine pure_ (i := 13) (N := some 58) (v := ?_) (a' := ?_) #[true, true, true, true, true, true, true, true, true, true, true, true, true, true, false, false, false, false, false, false, false, false, false, false, false, false, false, false] rfl rfl (by kernel_rfl) (fun _ _ _ h => h) (Or.inl ⟨by rfl, ?_⟩) ?_ ?_
      rotate_left
      · intro w'
        go_simp
        with_reducible rfl
      rotate_left
      · simp only [Act.put, List.setIfInBounds_toArray, List.set_cons_zero, List.set_cons_succ, i64_w, i32_w]
        rfl
      refine pure_ (i := 14) (N := some 59) (v := ?_) (a' := ?_) #[true, true, true, true, true, true, true, true, true, true, true, true, true, true, true, false, false, false, false, false, false, false, false, false, false, false, false, false] rfl rfl (by kernel_rfl) (fun _ _ _ h => h) (Or.inl ⟨by rfl, ?_⟩) ?_ ?_
      rotate_left
      · intro w'
        go_simp
        with_reducible rfl
      rotate_left
      · simp only [Act.put, List.setIfInBounds_toArray, List.set_cons_zero, List.set_cons_succ, i64_w, i32_w]
        rfl
      refine pure_ (i := 15) (N := some 60) (v := ?_) (a' := ?_) #[true, true, true, true, true, true, true, true, true, true, true, true, true, true, true, true, false, false, false, false, false, false, false, false, false, false, false, false] rfl rfl (by kernel_rfl) (fun _ _ _ h => h) (Or.inl ⟨by rfl, ?_⟩) ?_ ?_
      rotate_left
      · intro w'
        go_simp
        with_reducible rfl
      rotate_left
      · simp only [Act.put, List.setIfInBounds_toArray, List.set_cons_zero, List.set_cons_succ, i64_w, i32_w]
        rfl
      refine pure_ (i := 17) (N := some 62) (v := ?_) (a' := ?_) #[true, true, true, true, true, true, true, true, true, true, true, true, true, true, true, true, false, true, false, false, false, false, false, false, false, false, false, false] rfl rfl (by kernel_rfl) (fun _ _ _ h => h) (Or.inl ⟨by rfl, ?_⟩) ?_ ?_
      rotate_left
      · intro w'
        go_simp
        with_reducible rfl
      rotate_left
      · simp only [Act.put, List.setIfInBounds_toArray, List.set_cons_zero, List.set_cons_succ, i64_w, i32_w]
        rfl
      refine pure_ (i := 18) (N := some 63) (v := ?_) (a' := ?_) #[true, true, true, true, true, true, true, true, true, true, true, true, true, true, true, true, false, true, true, false, false, false, false, false, false, false, false, false] rfl rfl (by kernel_rfl) (fun _ _ _ h => h) (Or.inl ⟨by rfl, ?_⟩) ?_ ?_
      rotate_left
      · intro w'
        go_simp
        with_reducible rfl
      rotate_left
      · simp only [Act.put, List.setIfInBounds_toArray, List.set_cons_zero, List.set_cons_succ, i64_w, i32_w]
        rfl
      refine one_ (i := 16) (N := some 61) #[true, true, true, true, true, true, true, true, true, true, true, true, true, true, true, true, true, true, true, false, false, false, false, false, false, false, false, false] rfl rfl (by kernel_rfl) (by decide) (fun K hK => ?_)
      refine goes_ Try.func18 (by kernel_rfl) rfl #[.slice Aa TA.length ca, .slice Ab TB.length cb] (by rfl) rfl rfl (by first | (simp only [List.map_toArray, List.map_cons, List.map_nil]; done) | (simp only [List.map_toArray, List.map_cons, List.map_nil]; rfl)) ?_
      with_reducible refine (PSame_any Aa ca TA Ab cb TB _ (Kd.C_below HC.out.2.1 (below_then HB.out HB.out.size H5.out)) (Kd.C_below HC.out.2.2 (below_then HB.out HB.out.size H5.out)) (by have := HL.out; omega) (by have := HL.out; omega) HSL.out.1 HSL.out.2 HQ.out).mono ?_
      rintro e w6 ⟨rfl, hb⟩
      refine ⟨_, rfl, ?_⟩
      have H6 := Aside0.mk (below_then H5.out H5.out.size hb)
      have hy := blk_below HX.out H6.out
      have hy0 := (blk_cell hy 0).trans (rfl : _ = some (Value.int .i64 k))
      have hy1 := (blk_cell hy 1).trans (rfl : _ = some (Value.int .i32 r))
      have hy2 := (blk_cell hy 2).trans (rfl : _ = some (Value.slice A T.length c))
      clear hb hy
      refine hK.out _ _ ⟨hy0, hy1, hy2⟩ (fun hHeld => ?_)
      clear hK K
      refine norm_ (a' := ?_) ?_ ?_
      rotate_left
      · show Act.put _ (some 61) _ = _
        simp only [Act.put, List.setIfInBounds_toArray, List.set_cons_zero, List.set_cons_succ, i64_w, i32_w]
        rfl
      refine one_ (i := 19) (N := some 64) #[true, true, true, true, true, true, true, true, true, true, true, true, true, true, true, true, true, true, true, true, false, false, false, false, false, false, false, false] rfl rfl (by kernel_rfl) (by decide) (fun K hK => ?_)
      refine goes_ Try.func8 (by kernel_rfl) rfl #[.slice Aa TA.length ca, .slice Aw TB.length cw] (by rfl) rfl rfl (by first | (simp only [List.map_toArray, List.map_cons, List.map_nil]; done) | (simp only [List.map_toArray, List.map_cons, List.map_nil]; rfl)) ?_
      with_reducible refine (SameL Aa ca TA Aw cw TB _ (Kd.C_below HC.out.2.1 (below_then HB.out HB.out.size H6.out)) HL.out.2.2.2.1 (Kd.C_below HW.out.2 H6.out) HW.out.1 HS.out.1 (by have := HL.out; omega) HQ2.out).mono ?_
      rintro e w7 ⟨rfl, hb⟩
      refine ⟨_, rfl, ?_⟩
      have H7 := Aside0.mk (below_then H6.out H6.out.size hb)
      have hy := blk_below HX.out H7.out
      have hy0 := (blk_cell hy 0).trans (rfl : _ = some (Value.int .i64 k))
      have hy1 := (blk_cell hy 1).trans (rfl : _ = some (Value.int .i32 r))
      have hy2 := (blk_cell hy 2).trans (rfl : _ = some (Value.slice A T.length c))
      clear hb hy
      refine hK.out _ _ ⟨hy0, hy1, hy2⟩ (fun hHeld => ?_)
      clear hK K
      refine norm_ (a' := ?_) ?_ ?_
      rotate_left
      · show Act.put _ (some 64) _ = _
        simp only [Act.put, List.setIfInBounds_toArray, List.set_cons_zero, List.set_cons_succ, i64_w, i32_w]
        rfl
      refine pure_ (i := 20) (N := some 65) (v := ?_) (a' := ?_) #[true, true, true, true, true, true, true, true, true, true, true, true, true, true, true, true, true, true, true, true, true, false, false, false, false, false, false, false] rfl rfl (by kernel_rfl) (fun _ _ _ h => h) (Or.inl ⟨by rfl, ?_⟩) ?_ ?_
      rotate_left
      · intro w'
        go_simp
        with_reducible rfl
      rotate_left
      · simp only [Act.put, List.setIfInBounds_toArray, List.set_cons_zero, List.set_cons_succ, i64_w, i32_w]
        rfl
      refine pure_ (i := 21) (N := some 66) (v := ?_) (a' := ?_) #[true, true, true, true, true, true, true, true, true, true, true, true, true, true, true, true, true, true, true, true, true, true, false, false, false, false, false, false] rfl rfl (by kernel_rfl) (fun _ _ _ h => h) (Or.inl ⟨by rfl, ?_⟩) ?_ ?_
      rotate_left
      · intro w'
        go_simp
        with_reducible rfl
      rotate_left
      · simp only [Act.put, List.setIfInBounds_toArray, List.set_cons_zero, List.set_cons_succ, i64_w, i32_w]
        rfl
      refine pure_ (i := 22) (N := some 67) (v := ?_) (a' := ?_) #[true, true, true, true, true, true, true, true, true, true, true, true, true, true, true, true, true, true, true, true, true, true, true, false, false, false, false, false] rfl rfl (by kernel_rfl) (fun _ _ _ h => h) (Or.inl ⟨by rfl, ?_⟩) ?_ ?_
      rotate_left
      · intro w'
        go_simp
        with_reducible rfl
      rotate_left
      · simp only [Act.put, List.setIfInBounds_toArray, List.set_cons_zero, List.set_cons_succ, i64_w, i32_w]
        rfl
      refine pure_ (i := 23) (N := some 68) (v := ?_) (a' := ?_) #[true, true, true, true, true, true, true, true, true, true, true, true, true, true, true, true, true, true, true, true, true, true, true, true, false, false, false, false] rfl rfl (by kernel_rfl) (fun _ _ _ h => h) (Or.inl ⟨by rfl, ?_⟩) ?_ ?_
      rotate_left
      · intro w'
        go_simp
        with_reducible rfl
      rotate_left
      · simp only [Act.put, List.setIfInBounds_toArray, List.set_cons_zero, List.set_cons_succ, i64_w, i32_w]
        rfl
      refine pure_ (i := 24) (N := some 69) (v := ?_) (a' := ?_) #[true, true, true, true, true, true, true, true, true, true, true, true, true, true, true, true, true, true, true, true, true, true, true, true, true, false, false, false] rfl rfl (by kernel_rfl) (fun _ _ _ h => h) (Or.inl ⟨by rfl, ?_⟩) ?_ ?_
      rotate_left
      · intro w'
        go_simp
        with_reducible rfl
      rotate_left
      · simp only [Act.put, List.setIfInBounds_toArray, List.set_cons_zero, List.set_cons_succ, i64_w, i32_w]
        rfl
      refine one_ (i := 25) (N := some 70) #[true, true, true, true, true, true, true, true, true, true, true, true, true, true, true, true, true, true, true, true, true, true, true, true, true, true, false, false] rfl rfl (by kernel_rfl) (by decide) (fun K hK => ?_)
      refine goes_ Try.func18 (by kernel_rfl) rfl #[.slice Aa TA.length ca, .slice Aa TA.length ca] (by rfl) rfl rfl (by first | (simp only [List.map_toArray, List.map_cons, List.map_nil]; done) | (simp only [List.map_toArray, List.map_cons, List.map_nil]; rfl)) ?_
      with_reducible refine (PSame_any Aa ca TA Aa ca TA _ (Kd.C_below HC.out.2.1 (below_then HB.out HB.out.size H7.out)) (Kd.C_below HC.out.2.1 (below_then HB.out HB.out.size H7.out)) (by have := HL.out; omega) (by have := HL.out; omega) HSL.out.1 HSL.out.1 (r := true) (decide_eq_true rfl)).mono ?_
      rintro e w8 ⟨rfl, hb⟩
      refine ⟨_, rfl, ?_⟩
      have H8 := Aside0.mk (below_then H7.out H7.out.size hb)
      have hy := blk_below HX.out H8.out
      have hy0 := (blk_cell hy 0).trans (rfl : _ = some (Value.int .i64 k))
      have hy1 := (blk_cell hy 1).trans (rfl : _ = some (Value.int .i32 r))
      have hy2 := (blk_cell hy 2).trans (rfl : _ = some (Value.slice A T.length c))
      clear hb hy
      refine hK.out _ _ ⟨hy0, hy1, hy2⟩ (fun hHeld => ?_)
      clear hK K
      refine norm_ (a' := ?_) ?_ ?_
      rotate_left
      · show Act.put _ (some 70) _ = _
        simp only [Act.put, List.setIfInBounds_toArray, List.set_cons_zero, List.set_cons_succ, i64_w, i32_w]
        rfl
      refine pure_ (i := 26) (N := some 71) (v := ?_) (a' := ?_) #[true, true, true, true, true, true, true, true, true, true, true, true, true, true, true, true, true, true, true, true, true, true, true, true, true, true, true, false] rfl rfl (by kernel_rfl) (fun _ _ _ h => h) (Or.inl ⟨by rfl, ?_⟩) ?_ ?_
      rotate_left
      · intro w'
        go_simp
        with_reducible rfl
      rotate_left
      · simp only [Act.put, List.setIfInBounds_toArray, List.set_cons_zero, List.set_cons_succ, i64_w, i32_w]
        rfl
      refine pure_ (i := 27) (N := some 10) (v := ?_) (a' := ?_) #[true, true, true, true, true, true, true, true, true, true, true, true, true, true, true, true, true, true, true, true, true, true, true, true, true, true, true, true] rfl rfl (by kernel_rfl) (fun _ _ _ h => h) (Or.inl ⟨by rfl, ?_⟩) ?_ ?_
      rotate_left
      · intro w'
        go_simp
        with_reducible rfl
      rotate_left
      · simp only [Act.put, List.setIfInBounds_toArray, List.set_cons_zero, List.set_cons_succ, i64_w, i32_w]
        rfl
      refine done_ (by kernel_rfl) ?_
      all_goals go_wp2
      all_goals go_ret
      all_goals exact ⟨rfl, below_then HB.out HB.out.size H8.out⟩
set_option maxRecDepth 100000 in
theorem walk_ParseNumbers (v0 : Value) (x0 : Int × Int × List Int) (a1 a2 : Int) (a3 : Option Addr) (cap3 : Nat) (l3 : List (Int × Int × List Int)) (a4 : Option Addr) (cap4 : Nat) (l4 : List (Int × Int × List Int)) (w : World) {base : Nat} (hv0 : Value.okWide Try.prog w .any base 46 v0) (hK0 : kd3.K w x0 v0.cells.toList) (hq0 : wf3 x0) (w1 : (Lit.int .i64 a1).wf = true) (w2 : (Lit.int .i64 a2).wf = true)
    (hC3 : Kd.C kd3 w a3 l3.length l3) (hc3 : l3.length ≤ cap3) (hq3 : ∀ x ∈ l3, wf3 x) (hC4 : Kd.C kd3 w a4 l4.length l4) (hc4 : l4.length ≤ cap4) (hq4 : ∀ x ∈ l4, wf3 x) :
    Calls Try.prog 4 #[v0, .int .i64 a1, .int .i64 a2, .slice a3 l3.length cap3, .slice a4 l4.length cap4] w fun e w' => e = .returned (.bool true) ∧ Below w.heap.size w w' := by
  obtain ⟨A, c, rfl, hc, hC⟩ := ev_arg hv0 hK0
  have h3 := C_mk3 hC3
  have h4 := C_mk3 hC4
  have e3 : l3.length = (l3.map mk3).length := (List.length_map ..).symm
  have e4 : l4.length = (l4.map mk3).length := (List.length_map ..).symm
  rw [e3] at h3 hc3 ⊢
  rw [e4] at h4 hc4 ⊢
  have hw : ∀ (l : List (Int × Int × List Int)), (∀ x ∈ l, wf3 x) → ∀ x ∈ l.map mk3, -2147483648 ≤ x.f1 ∧ x.f1 ≤ 2147483647 := by
    intro l h x hx
    obtain ⟨y, hy, rfl⟩ := List.mem_map.1 hx
    have := bounds_i32 (h y hy).2.1
    show -2147483648 ≤ y.2.1 ∧ y.2.1 ≤ 2147483647
    omega
  exact walk_PN _ _ A c _ a1 a2 a3 cap3 _ a4 cap4 _ w (by have := bounds_i32 hq0.2.1; omega) hC hc h3 hc3 h4 hc4 (hw l3 hq3) (hw l4 hq4)
theorem own_ParseNumbers : ownKnob Try.prog.godebug = none := by kernel_rfl
theorem laidOut_ParseNumbers : laidOutB Try.prog = true := by kernel_rfl
set_option maxRecDepth 100000 in
theorem lifted_ParseNumbers (os : Os) (started : os.Started) (H : Type) (enc : TypeId × Value → H) :
    ReturnsInHanded {} Try.checked os 4 .any (Rows.parseNumbersSpec.pre6 enc Try.prog Try.f4 Rows.parseNumbersRow.domain false) (Rows.parseNumbersSpec.post enc Try.prog Try.f4 false true false false) := by
  refine returnsInHanded_of_change (C := Try.checked) own_ParseNumbers started (by kernel_rfl) Try.func4
    (ChangeSpec.witness6 (enc := enc) (C := Try.checked) false ⟨#[], #[.agg #[.int .i64 0, .int .i32 0, .slice none 0 0], .int .i64 0, .int .i64 0, .slice none 0 0, .slice none 0 0], []⟩ 8 (by kernel_rfl) (by kernel_rfl) (by kernel_rfl) (by kernel_rfl)) ?_
  intro W base args ds gs before hval0 hW hcnd _
  have hval : ∀ (j : Nat) t v, Try.f4.params[j]? = some t → args[j]? = some v → Value.okWide Try.prog W .any base t v := hval0
  have hW' := hW
  obtain ⟨p, q, hA0, hV, rfl, hfz, hnd⟩ := hW
  have hA : DataW.TrodAll enc Try.prog W 0 (fun _ => true) true Try.f4.params.toList args.toList ds p := hA0
  rw [Try.params4] at hA hval
  obtain ⟨v0, vs0, d0, ds0, p0, q0, hargs, rfl, rfl, h0, r0⟩ := trodAll_cons hA
  obtain ⟨v1, vs1, d1, ds1, p1, q1, rfl, rfl, rfl, h1, r1⟩ := trodAll_cons r0
  obtain ⟨v2, vs2, d2, ds2, p2, q2, rfl, rfl, rfl, h2, r2⟩ := trodAll_cons r1
  obtain ⟨v3, vs3, d3, ds3, p3, q3, rfl, rfl, rfl, h3, r3⟩ := trodAll_cons r2
  obtain ⟨v4, vs4, d4, ds4, p4, q4, rfl, rfl, rfl, h4, r4⟩ := trodAll_cons r3
  obtain ⟨rfl, rfl, rfl⟩ := trodAll_nil r4
  obtain rfl : args = #[v0, v1, v2, v3, v4] := by cases args; simp_all
  obtain ⟨rfl, rfl⟩ := trodVars_none hV
  have k0 := h0
  have lt0 : ∀ x ∈ p0, x.block < W.heap.size := by obtain ⟨m, hm⟩ := k0; exact DataW.trod_lt m _ _ _ hm
  obtain ⟨x0, hK0, hq0⟩ := open_any (fun {H} => @opn_Ev H) h0
  obtain ⟨a1, rfl, rfl, rfl, w1⟩ := open_int Try.underlying3 (hval 1 3 v1 rfl rfl) h1
  obtain ⟨a2, rfl, rfl, rfl, w2⟩ := open_int Try.underlying3 (hval 2 3 v2 rfl rfl) h2
  obtain ⟨a3, len3, cap3, rfl⟩ := okWide_slice Try.underlying38 (hval 3 38 v3 rfl rfl)
  have k3 := h3
  have lt3 : ∀ x ∈ p3, x.block < W.heap.size := by obtain ⟨m, hm⟩ := k3; exact DataW.trod_lt m _ _ _ hm
  obtain ⟨l3, rfl, hC3, hc3, hq3⟩ := open_sl (Opn.slice (e := 46) (d := kd3) (Q := wf3) Try.underlying38 (by kernel_rfl) (fun {H} => @opn_Ev H)) h3
  obtain ⟨a4, len4, cap4, rfl⟩ := okWide_slice Try.underlying38 (hval 4 38 v4 rfl rfl)
  have k4 := h4
  have lt4 : ∀ x ∈ p4, x.block < W.heap.size := by obtain ⟨m, hm⟩ := k4; exact DataW.trod_lt m _ _ _ hm
  obtain ⟨l4, rfl, hC4, hc4, hq4⟩ := open_sl (Opn.slice (e := 46) (d := kd3) (Q := wf3) Try.underlying38 (by kernel_rfl) (fun {H} => @opn_Ev H)) h4
  refine (walk_ParseNumbers v0 x0 a1 a2 a3 cap3 l3 a4 cap4 l4 W (hval 0 46 v0 rfl rfl) hK0 hq0 w1 w2 hC3 hc3 hq3 hC4 hc4 hq4).mono fun e W' ⟨he, bel⟩ => ?_
  subst he
  exact ⟨_, rfl, _, _, _, [], _, [], hW', trodAll_mk1 (shut_bool Try.underlying4 _), (trodAll_cons_mk (Below.trod laidOut_ParseNumbers (by kernel_rfl) (of_decide_eq_true (by kernel_rfl)) k0 bel lt0) (trodAll_cons_mk (shut_int Try.underlying3 w1) (trodAll_cons_mk (shut_int Try.underlying3 w2) (trodAll_cons_mk (Below.trod laidOut_ParseNumbers (by kernel_rfl) (of_decide_eq_true (by kernel_rfl)) k3 bel lt3) (trodAll_cons_mk (Below.trod laidOut_ParseNumbers (by kernel_rfl) (of_decide_eq_true (by kernel_rfl)) k4 bel lt4) trodAll_mk0))))), rfl, bel.frame _, fun h => by cases h⟩
/-- The row. -/
theorem ParseNumbers_holds : Rows.ParseNumbersSaid :=
  OpenClaim.holds_of_wide 4 Try.f4 rfl rfl rfl rfl rfl rfl rfl ⟨rfl, rfl, rfl, rfl, rfl⟩ rfl rfl rfl rfl rfl (by kernel_rfl) Try.func4 (by kernel_rfl)
    (of_decide_eq_true (by kernel_rfl)) (by unfold Func.isWrapper; first | (rw [if_pos (by decide +kernel)]; kernel_rfl) | (rw [if_neg (by decide +kernel)]; exact ⟨rfl, rfl⟩))
    (fun os started H enc _ => lifted_ParseNumbers os started H enc)
#print axioms ParseNumbers_holds
end Go.Proofs.Ytlllbaieidbcdaa
