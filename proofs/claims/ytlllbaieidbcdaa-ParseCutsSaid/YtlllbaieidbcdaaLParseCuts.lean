/- ParseCuts holds: however bytes are cut, the events are the same. No condition. -/
import Derived.Test.YtlllbaieidbcdaaRows
import Derived.Test.YtlllbaieidbcdaaPaL
import Derived.Test.YtlllbaieidbcdaaOpn
import Derived.ProofKit
import Derived.OpenShut
namespace Go.Proofs.Ytlllbaieidbcdaa
open Go.ChangeShapes Go.WideShapes Go.ChangeAt Go.RowKit Go.Proofs.YtlllbaieidbcdaaW.PrintWords Go.Proofs.YtlllbaieidbcdaaW.PrintLast Go.Proofs.YtlllbaieidbcdaaW.PrintMore Go.Proofs.Ytlllbaieidbcdaa.PParseEvents Go.Proofs.Ytlllbaieidbcdaa.Str
set_option linter.unusedVariables false
set_option linter.unusedSimpArgs false
theorem infoParser : (Try.prog.info? 28).map (fun i => (i.zero, i.size)) = some (some (.agg #[.int .u8 0, .int .u8 0, .int .u8 0, .int .i64 0, .int .i64 0, .slice none 0 0]), 6) := by kernel_rfl
theorem le_start (w : World) : LE w (w.alloc (.cells #[.int .u8 0, .int .u8 0, .int .u8 0, .int .i64 0, .int .i64 0, .slice none 0 0] 28)) w.heap.size ⟨0, [], []⟩ (.slice none 0 0) (.slice none 0 0) [] :=
  ⟨⟨⟨below_alloc (Below.refl _ _) _, Nat.le_refl _, by simp, 0, 0, 0, blk_new _ _, rfl⟩, Kd.R_nil _ _ _ _ _⟩, Kd.N_nil _ _ _ _ _⟩
set_option maxRecDepth 100000 in
set_option maxHeartbeats 4000000 in
theorem walk_ParseCuts (A : Option Addr) (c : Nat) (l : List Int) (A' : Option Addr) (c' : Nat) (cuts : List Int) (w : World) (hC : Kd.C (Kd.int .u8) w A l.length l) (hc : l.length ≤ c) (hq : ∀ x ∈ l, (Lit.int .u8 x).wf = true)
    (hC' : Kd.C (Kd.int .i64) w A' cuts.length cuts) (hc' : cuts.length ≤ c') (hq' : ∀ x ∈ cuts, (Lit.int .i64 x).wf = true) :
    Calls Try.prog 5 #[.slice A l.length c, .slice A' cuts.length c'] w fun e w' => e = .returned (.bool true) ∧ Below w.heap.size w w' := by
  have h8 : In8u l := fun x hx => by have := bounds_u8 (hq x hx); omega
  obtain ⟨n, hn⟩ : ∃ n, n = min l.length 100 := ⟨_, rfl⟩
  obtain ⟨hcut, hread, hlen⟩ := cut_take (P := Try.prog) (Kd.int .u8) 29 5 .i64 Try.underlying29 Str.info5 A c l (n : Int) (by omega) (by omega) hc
  have hmin : (if (100 : Int) < (l.length : Int) then (100 : Int) else (l.length : Int)) = (n : Int) := by split <;> omega
  have hl : (l.take n).length = n := by rw [List.length_take]; omega
  simp only [Int.toNat_natCast] at hcut hread hlen
  have hCB := hread w hC
  have h8B : In8u (l.take n) := fun x hx => h8 x (List.mem_of_mem_take hx)
  have h60 : n ≤ 100 := by omega
  clear hC hread h8 hn hq
  generalize l.take n = B at *
  obtain rfl : n = B.length := hl.symm
  have HCB := Aside0.mk hCB
  have HCC := Aside0.mk hC'
  have HI := Aside0.mk (And.intro hlen (And.intro h60 hc'))
  have H8 := Aside0.mk h8B
  clear hl hCB hC' hlen hc h8B h60 hq' hc'
  go_enter Try.func5, Try.ntmps5
  go_wp2
  go_loopg [6, 7, 8] (21 : Nat) (fun kq v6 v7 v8 w' => ∃ (i j : Nat) (Ar : Option Addr) (cr : Nat) (L : List Int) (nv : Value), v8 = .int .i64 i ∧ v7 = .slice Ar L.length cr ∧ Aside0 (kq + i = 21 ∧ i ≤ cuts.length ∧ i ≤ 20 ∧ j ≤ B.length ∧ L.length ≤ cr ∧ L.length + j = B.length) ∧ Aside0 (B.drop j = L) ∧ Aside0 (Kd.C (Kd.int .u8) w Ar L.length L) ∧ Aside0 (LE w w' w.heap.size (feedV ⟨0, [], []⟩ (B.take j)).1 nv v6 (feedV ⟨0, [], []⟩ (B.take j)).2))
  case atStart => exact ⟨0, 0, A, c, B, .slice none 0 0, rfl, rfl, ⟨by omega, by omega, by omega, by omega, HI.out.1, by omega⟩, ⟨rfl⟩, HCB, ⟨le_start w⟩⟩
  case round =>
    obtain ⟨i, j, Ar, cr, L, nv, rfl, rfl, HK, HL, HR, HW⟩ := hrel
    have hL60 : L.length ≤ 100 := by have := HI.out; have := HK.out; omega
    have hpok := feed_ok (B.take j) pp0_ok (fun x hx => H8.out x (List.mem_of_mem_take hx))
    have hol0 := feed_len (B.take j) pp0_ok (fun x hx => H8.out x (List.mem_of_mem_take hx))
    have hBj : (B.take j).length = j := by rw [List.length_take]; have := HK.out; omega
    rw [hBj, Nat.zero_add] at hpok
    rw [hBj] at hol0
    obtain ⟨⟨p, O⟩, hpO⟩ : ∃ q, feedV ⟨0, [], []⟩ (B.take j) = q := ⟨_, rfl⟩
    rw [hpO] at HW hpok hol0
    dsimp only at HW hpok hol0
    have hOv := HW.out.reads
    by_cases hT : i < cuts.length ∧ i < 20
    · have hT1 : decide ((i : Int) < (cuts.length : Int)) = true := decide_eq_true (by omega)
      have hT2 : decide ((i : Int) < 20) = true := decide_eq_true (by omega)
      obtain ⟨ad, rfl, hcell⟩ := Kd.at_int (Kd.C_below HCC.out HW.out.hb) (i : Int) (by omega) (by omega)
      rw [Int.toNat_natCast] at hcell
      obtain ⟨n2, hE, hn2⟩ : ∃ n2 : Nat, wrap64 ((IntKind.u64.wrap (rd cuts (i : Int))).tmod ((L.length : Int) + 1)) = (n2 : Int) ∧ n2 ≤ L.length := by
        have h0 : 0 ≤ IntKind.u64.wrap (rd cuts (i : Int)) := by rw [IntKind.wrap_u64]; omega
        have h1 := Int.tmod_lt_of_pos (IntKind.u64.wrap (rd cuts (i : Int))) (show (0 : Int) < (L.length : Int) + 1 by omega)
        have h2 := Int.tmod_nonneg ((L.length : Int) + 1) h0
        refine ⟨((IntKind.u64.wrap (rd cuts (i : Int))).tmod ((L.length : Int) + 1)).toNat, ?_, by omega⟩
        rw [Str.w64 (by omega) (by omega)]
        omega
      obtain ⟨hcT, hrT, hlT⟩ := cut_take (P := Try.prog) (Kd.int .u8) 29 5 .i64 Try.underlying29 Str.info5 Ar cr L (n2 : Int) (by omega) (by omega) HK.out.2.2.2.2.1
      obtain ⟨A2, hcD, hrD, hlD⟩ := cut_drop (P := Try.prog) (Kd.int .u8) 29 5 .i64 Try.underlying29 Str.info5 Ar cr L (n2 : Int) (by omega) (by omega) HK.out.2.2.2.2.1
      have hRT := hrT w HR.out
      have hRD := hrD w HR.out
      obtain ⟨j2, hj2⟩ : ∃ j2, j + n2 = j2 := ⟨_, rfl⟩
      simp only [Int.toNat_natCast] at hcT hRT hlT hcD hRD hlD
      have hTl : (L.take n2).length = n2 := by rw [List.length_take]; omega
      have hT8 : In8u (L.take n2) := fun x hx => by
        rw [← HL.out] at hx
        exact H8.out x (List.mem_of_mem_drop (List.mem_of_mem_take hx))
      obtain ⟨⟨p2, E⟩, hpE⟩ : ∃ q, feedV p (L.take n2) = q := ⟨_, rfl⟩
      have hEl := feed_len (L.take n2) hpok hT8
      rw [hpE] at hEl
      dsimp only at hEl
      rw [hTl] at hEl
      have hfd : feedV ⟨0, [], []⟩ (B.take j2) = (p2, O ++ E) := by
        rw [show B.take j2 = B.take j ++ L.take n2 by rw [← HL.out, ← hj2, List.take_add], feed_app, hpO]
        simp only [hpE]
      have hDL : (L.drop n2).length + j2 = B.length := by rw [List.length_drop]; have := HK.out; omega
      have HDL := Aside0.mk (show B.drop j2 = L.drop n2 by rw [← HL.out, List.drop_drop, hj2])
      obtain ⟨T, hT_⟩ : ∃ T, L.take n2 = T := ⟨_, rfl⟩
      obtain ⟨L2, hL2⟩ : ∃ L2, L.drop n2 = L2 := ⟨_, rfl⟩
      obtain ⟨Q, hQ⟩ : ∃ Q : List Evt, O ++ E = Q := ⟨_, rfl⟩
      rw [hT_] at hcT hRT hlT hT8 hpE hTl
      rw [hL2] at hcD hRD hlD hDL HDL
      rw [hQ] at hfd
      have HRT := Aside0.mk hRT
      have HRD := Aside0.mk hRD
      have HLN := Aside0.mk (And.intro hlT hlD)
      have HPE := Aside0.mk hpE
      have HT8 := Aside0.mk hT8
      have HOK := Aside0.mk hpok
      have HFD := Aside0.mk hfd
      have HQQ := Aside0.mk hQ
      have HSZ := Aside0.mk (show O.length + E.length ≤ 10000 ∧ T.length = n2 ∧ j ≤ 100 ∧ n2 ≤ 100 by have := HI.out; have := HK.out; omega)
      have HJ2 := Aside0.mk (show j2 ≤ B.length ∧ L2.length + j2 = B.length by omega)
      obtain ⟨Ao, co, rfl, -, -⟩ := hOv
      clear hrT hrD hRT hRD hlT hlD hT_ hL2 hQ hpE hT8 hpok hfd hTl hEl hDL hpO hol0 hBj hj2
      go_wp2_with (first | (go_at_call 9; go_must (refine (LE_feed HW.out j Ar cr T HOK.out (by have := HSZ.out; omega) HRT.out HT8.out HPE.out).mono ?_); rintro e w2 ⟨A3, c3, nv1, rfl, hc3, hF3, hL3⟩; have HW2 := Aside0.mk (And.intro hL3 hF3); clear hL3 hF3 hc3) | ((with_reducible refine gate_builtin (b := .append) (xs := #[.tmp 38, .tmp 42]) rfl ?_); go_must (at_builtin); go_must (refine Kd.N_append_rows kEv (w0 := w2) (w.heap.size + 1) rfl (.tmp 38) (.tmp 42) 38 46 _ 40 rfl Try.underlying38 infoEv rfl (by decide) (by omega) (.slice Ao O.length co) O E A3 _ c3 (fun k => w.heap.size < k ∧ some k ≠ nv1.ownBlock) _ rfl rfl HW2.out.1.on HW2.out.2 (fun _ h => h) ?aF (Below.refl _ _) HW2.out.1.gs (by have := HSZ.out; omega) ?_); (case aF => exact fun k hk => ⟨Nat.lt_of_lt_of_le HW2.out.1.gs hk, fun h => by have := Kd.R_lt HW2.out.1.pw.rn k h.symm; omega⟩); intro v4 w4 ho hb hg hat; rw [HQQ.out] at ho; have HW4 := Aside0.mk (HW2.out.1.app ho hb hg); clear ho hb hg hat))
      go_roundg (gk - 1)
      case measure => have := HK.out; omega
      case rel => exact ⟨i + 1, j2, A2, cr - n2, L2, nv1, by go_num, rfl, ⟨by have := HK.out; omega, by omega, by omega, HJ2.out.1, HLN.out.2, HJ2.out.2⟩, HDL, HRD, ⟨by rw [HFD.out]; exact HW4.out⟩⟩
    · have hL8 : In8u L := fun x hx => by rw [← HL.out] at hx; exact H8.out x (List.mem_of_mem_drop hx)
      obtain ⟨⟨p2, E⟩, hpE⟩ : ∃ q, feedV p L = q := ⟨_, rfl⟩
      have hEl := feed_len L hpok hL8
      rw [hpE] at hEl
      dsimp only at hEl
      have hfd : allV B = O ++ E ++ flushV p2.h := by
        unfold allV
        rw [show feedV ⟨0, [], []⟩ B = (p2, O ++ E) by
          conv => lhs; rw [show B = B.take j ++ L by rw [← HL.out, List.take_append_drop]]
          rw [feed_app, hpO]
          simp only [hpE]]
      obtain ⟨Q, hQ⟩ : ∃ Q : List Evt, O ++ E = Q := ⟨_, rfl⟩
      obtain ⟨Z, hZ⟩ : ∃ Z : List Evt, allV B = Z := ⟨_, rfl⟩
      rw [hQ, hZ] at hfd
      have hzl : Z.length ≤ 1000 := by rw [← hZ]; have := all_len B H8.out; have := HI.out; omega
      have hzs : ∀ x ∈ Z, x.f2.length ≤ 1000000 := fun x hx => by rw [← hZ] at hx; have := (all_small B H8.out x hx).2; omega
      have HPE := Aside0.mk hpE
      have HL8 := Aside0.mk hL8
      have HOK := Aside0.mk hpok
      have HFD := Aside0.mk hfd
      have HQQ := Aside0.mk hQ
      have HZZ := Aside0.mk hZ
      have HZL := Aside0.mk (And.intro hzl hzs)
      have HFL := Aside0.mk (flushV_len p2.h)
      have HSZ := Aside0.mk (show O.length + E.length ≤ 10000 ∧ L.length ≤ 100 ∧ j ≤ 100 ∧ L.length ≤ cr ∧ O.length + E.length = Q.length by rw [← hQ, List.length_append]; have := HI.out; have := HK.out; omega)
      obtain ⟨Ao, co, rfl, -, -⟩ := hOv
      clear hfd hQ hZ hpE hL8 hpok hEl hpO hol0 hBj hzl hzs
      go_wp2_with (first | (go_at_call 9; (with_reducible refine (LE_feed HW.out j Ar cr L HOK.out (by have := HSZ.out; omega) HR.out HL8.out HPE.out).mono ?_); rintro e w2 ⟨A3, c3, nv1, rfl, hc3, hF3, hL3⟩; have HW2 := Aside0.mk (And.intro hL3 hF3); clear hL3 hF3 hc3) | ((with_reducible refine gate_builtin (b := .append) (xs := #[.tmp 47, .tmp 49]) rfl ?_); go_must (at_builtin); go_must (refine Kd.N_append_rows kEv (w0 := w2) (w.heap.size + 1) rfl (.tmp 47) (.tmp 49) 38 46 _ 40 rfl Try.underlying38 infoEv rfl (by decide) (by omega) (.slice Ao O.length co) O E A3 _ c3 (fun k => w.heap.size < k ∧ some k ≠ nv1.ownBlock) _ rfl rfl HW2.out.1.on HW2.out.2 (fun _ h => h) ?aF (Below.refl _ _) HW2.out.1.gs (by have := HSZ.out; omega) ?_); (case aF => exact fun k hk => ⟨Nat.lt_of_lt_of_le HW2.out.1.gs hk, fun h => by have := Kd.R_lt HW2.out.1.pw.rn k h.symm; omega⟩); intro v4 w4 ho hb hg hat; rw [HQQ.out] at ho; have HW4 := Aside0.mk (HW2.out.1.app ho hb hg); clear ho hb hg hat; obtain ⟨A4, c4, rfl, -, -⟩ := HW4.out.reads) | (go_at_call 14; (with_reducible refine (LE_flush HW4.out).mono ?_); rintro e w5 ⟨A5, c5, rfl, hc5, hF5, hL5⟩; have HW5 := Aside0.mk (And.intro hL5 hF5); clear hL5 hF5 hc5) | ((with_reducible refine gate_builtin (b := .append) (xs := #[.tmp 51, .tmp 52]) rfl ?_); go_must (at_builtin); go_must (refine Kd.N_append_rows kEv (w0 := w5) (w.heap.size + 1) rfl (.tmp 51) (.tmp 52) 38 46 _ 40 rfl Try.underlying38 infoEv rfl (by decide) (by omega) (.slice A4 Q.length c4) Q (flushV p2.h) A5 _ c5 (fun k => w.heap.size < k ∧ some k ≠ nv1.ownBlock) _ rfl rfl HW5.out.1.on HW5.out.2 (fun _ h => h) ?aG (Below.refl _ _) HW5.out.1.gs (by have := HSZ.out; have := HFL.out; omega) ?_); (case aG => exact fun k hk => ⟨Nat.lt_of_lt_of_le HW5.out.1.gs hk, fun h => by have := Kd.R_lt HW5.out.1.pw.rn k h.symm; omega⟩); intro v6 w6 ho hb hg hat; rw [← HFD.out] at ho; have HW6 := Aside0.mk (HW5.out.1.app ho hb hg); clear ho hb hg hat; obtain ⟨A6, c6, rfl, hc6, hC6⟩ := HW6.out.reads; have HC6 := Aside0.mk (And.intro hc6 hC6); clear hc6 hC6) | (go_at_call 13; (refine (known8 _).mono ?_); rintro e w7 ⟨rfl, hb⟩; have H7 := Aside0.mk hb; clear hb) | (go_at_call 19; go_must (refine (PAll_any A c B _ (Kd.C_below HCB.out (below_then HW6.out.hb HW6.out.hb.size H7.out)) H8.out (by have := HI.out; omega)).mono ?_); rintro e w8 ⟨A8, c8, rfl, hc8, hC8, hb⟩; rw [HZZ.out] at hC8 hc8; rw [HZZ.out]; have H8' := Aside0.mk (And.intro hC8 hb); clear hC8 hb hc8) | (go_at_call 18; go_must (refine (PSame_any A6 c6 Z A8 c8 Z _ (Kd.C_below (Kd.C_below HC6.out.2 H7.out) H8'.out.2) H8'.out.1 (by have := HZL.out.1; omega) (by have := HZL.out.1; omega) HZL.out.2 HZL.out.2 (r := true) (decide_eq_true rfl)).mono ?_); rintro e w9 ⟨rfl, hb⟩; have HW9 := Aside0.mk (((HW6.out.below H7.out).below H8'.out.2).below hb); clear hb) | (go_at_call 9; go_must (refine (PFeed_nil _ _).mono ?_); rintro e w9 ⟨rfl, rfl⟩) | (go_at_call 14; go_must (refine (PFlush_nil _).mono ?_); rintro e w9 ⟨rfl, rfl⟩) | (go_at_call 10; go_must (refine (PRest_nil _).mono ?_); rintro e w9 ⟨rfl, rfl⟩) | (go_at_call 7; go_must (refine (PCopy_nil _).mono ?_); rintro e w9 ⟨rfl, rfl⟩))
      all_goals go_ret
      all_goals exact ⟨rfl, HW9.out.hb⟩
theorem own_ParseCuts : ownKnob Try.prog.godebug = none := by kernel_rfl
theorem laidOut_ParseCuts : laidOutB Try.prog = true := by kernel_rfl
set_option maxRecDepth 100000 in
theorem lifted_ParseCuts (os : Os) (started : os.Started) (H : Type) (enc : TypeId × Value → H) :
    ReturnsInHanded {} Try.checked os 5 .any (Rows.parseCutsSpec.pre6 enc Try.prog Try.f5 Rows.parseCutsRow.domain false) (Rows.parseCutsSpec.post enc Try.prog Try.f5 false true false false) := by
  refine returnsInHanded_of_change (C := Try.checked) own_ParseCuts started (by kernel_rfl) Try.func5
    (ChangeSpec.witness6 (enc := enc) (C := Try.checked) false ⟨#[], #[.slice none 0 0, .slice none 0 0], []⟩ 8 (by kernel_rfl) (by kernel_rfl) (by kernel_rfl) (by kernel_rfl)) ?_
  intro W base args ds gs before hval0 hW hcnd _
  have hval : ∀ (j : Nat) t v, Try.f5.params[j]? = some t → args[j]? = some v → Value.okWide Try.prog W .any base t v := hval0
  have hW' := hW
  obtain ⟨p, q, hA0, hV, rfl, hfz, hnd⟩ := hW
  have hA : DataW.TrodAll enc Try.prog W 0 (fun _ => true) true Try.f5.params.toList args.toList ds p := hA0
  rw [Try.params5] at hA hval
  obtain ⟨v0, vs0, d0, ds0, p0, q0, hargs, rfl, rfl, h0, r0⟩ := trodAll_cons hA
  obtain ⟨v1, vs1, d1, ds1, p1, q1, rfl, rfl, rfl, h1, r1⟩ := trodAll_cons r0
  obtain ⟨rfl, rfl, rfl⟩ := trodAll_nil r1
  obtain rfl : args = #[v0, v1] := by cases args; simp_all
  obtain ⟨rfl, rfl⟩ := trodVars_none hV
  obtain ⟨a0, len0, cap0, rfl⟩ := okWide_slice Try.underlying29 (hval 0 29 v0 rfl rfl)
  have k0 := h0
  have lt0 : ∀ x ∈ p0, x.block < W.heap.size := by obtain ⟨m, hm⟩ := k0; exact DataW.trod_lt m _ _ _ hm
  obtain ⟨l0, rfl, hC0, hc0, hq0⟩ := open_sl (Opn.slice (d := Kd.int .u8) Try.underlying29 (by kernel_rfl) (Opn.int Try.underlying5)) h0
  obtain ⟨a1, len1, cap1, rfl⟩ := okWide_slice Try.underlying26 (hval 1 26 v1 rfl rfl)
  have k1 := h1
  have lt1 : ∀ x ∈ p1, x.block < W.heap.size := by obtain ⟨m, hm⟩ := k1; exact DataW.trod_lt m _ _ _ hm
  obtain ⟨l1, rfl, hC1, hc1, hq1⟩ := open_sl (Opn.slice (d := Kd.int .i64) Try.underlying26 (by kernel_rfl) (Opn.int Try.underlying3)) h1
  refine (walk_ParseCuts a0 cap0 l0 a1 cap1 l1 W hC0 hc0 hq0 hC1 hc1 hq1).mono fun e W' ⟨he, bel⟩ => ?_
  subst he
  exact ⟨_, rfl, _, _, _, [], _, [], hW', trodAll_mk1 (shut_bool Try.underlying4 _), (trodAll_cons_mk (Below.trod laidOut_ParseCuts (by kernel_rfl) (of_decide_eq_true (by kernel_rfl)) k0 bel lt0) (trodAll_cons_mk (Below.trod laidOut_ParseCuts (by kernel_rfl) (of_decide_eq_true (by kernel_rfl)) k1 bel lt1) trodAll_mk0)), rfl, bel.frame _, fun h => by cases h⟩
/-- The row. -/
theorem ParseCuts_holds : Rows.ParseCutsSaid :=
  OpenClaim.holds_of_wide 5 Try.f5 rfl rfl rfl rfl rfl rfl rfl ⟨rfl, rfl, rfl, rfl, rfl⟩ rfl rfl rfl rfl rfl (by kernel_rfl) Try.func5 (by kernel_rfl)
    (of_decide_eq_true (by kernel_rfl)) (by unfold Func.isWrapper; first | (rw [if_pos (by decide +kernel)]; kernel_rfl) | (rw [if_neg (by decide +kernel)]; exact ⟨rfl, rfl⟩))
    (fun os started H enc _ => lifted_ParseCuts os started H enc)
#print axioms ParseCuts_holds
end Go.Proofs.Ytlllbaieidbcdaa
