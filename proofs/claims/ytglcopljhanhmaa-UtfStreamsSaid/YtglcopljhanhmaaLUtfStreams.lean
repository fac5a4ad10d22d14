/- UtfStreams holds: however bytes are cut. No condition. -/
import Derived.Test.YtglcopljhanhmaaRows
import Derived.Test.YtglcopljhanhmaaStC
import Derived.Test.YtglcopljhanhmaaOpn
import Derived.ProofKit
import Derived.OpenShut
namespace Go.Proofs.Ytglcopljhanhmaa
open Go.ChangeShapes Go.WideShapes Go.ChangeAt Go.RowKit Go.Proofs.YtglcopljhanhmaaW.PrintWords Go.Proofs.YtglcopljhanhmaaW.PrintLast Go.Proofs.YtglcopljhanhmaaW.PrintMore Go.Proofs.Ytglcopljhanhmaa.PUtfStreams Go.Proofs.Ytglcopljhanhmaa.Str
set_option linter.unusedVariables false
set_option linter.unusedSimpArgs false
theorem infoStream : (Try.prog.info? 37).map (fun i => (i.zero, i.size)) = some (some (.agg #[.int .u8 0, .int .u8 0, .int .u8 0, .int .i64 0]), 4) := by kernel_rfl
theorem flush0 : (if ([] : List Int) = [] then ([] : List Int) else [65533]) = [] := if_pos rfl
theorem lw_start (w : World) : LW w (w.alloc (.cells #[.int .u8 0, .int .u8 0, .int .u8 0, .int .i64 0] 37)) w.heap.size (.slice none 0 0) [] [] :=
  ⟨⟨below_alloc (Below.refl _ _) _, Nat.le_refl _, by simp, 0, 0, 0, blk_new _ _, rfl⟩, Kd.R_nil _ _ _ _ _, by show _ ≤ (w.heap.push _).size; simp⟩
set_option maxRecDepth 100000 in
set_option maxHeartbeats 4000000 in
theorem walk_UtfStreams (A : Option Addr) (c : Nat) (l : List Int) (A' : Option Addr) (c' : Nat) (cuts : List Int) (w : World) (hC : Kd.C (Kd.int .u8) w A l.length l) (hc : l.length ≤ c) (hq : ∀ x ∈ l, (Lit.int .u8 x).wf = true)
    (hC' : Kd.C (Kd.int .i64) w A' cuts.length cuts) (hc' : cuts.length ≤ c') (hq' : ∀ x ∈ cuts, (Lit.int .i64 x).wf = true) :
    Calls Try.prog 4 #[.slice A l.length c, .slice A' cuts.length c'] w fun e w' => e = .returned (.bool true) ∧ Below w.heap.size w w' := by
  have h8 : In8u l := fun x hx => by have := bounds_u8 (hq x hx); omega
  obtain ⟨n, hn⟩ : ∃ n, n = min l.length 60 := ⟨_, rfl⟩
  obtain ⟨hcut, hread, hlen⟩ := cut_take (P := Try.prog) (Kd.int .u8) 22 5 .i64 Try.underlying22 Str.info5 A c l (n : Int) (by omega) (by omega) hc
  have hmin : (if (60 : Int) < (l.length : Int) then (60 : Int) else (l.length : Int)) = (n : Int) := by split <;> omega
  have hl : (l.take n).length = n := by rw [List.length_take]; omega
  simp only [Int.toNat_natCast] at hcut hread hlen
  have hCB := hread w hC
  have h8B : In8u (l.take n) := fun x hx => h8 x (List.mem_of_mem_take hx)
  have h60 : n ≤ 60 := by omega
  clear hC hread h8 hn hq
  generalize l.take n = B at *
  obtain rfl : n = B.length := hl.symm
  have HCB := Aside0.mk hCB
  have HCC := Aside0.mk hC'
  have HI := Aside0.mk (And.intro hlen (And.intro h60 hc'))
  have H8 := Aside0.mk h8B
  clear hl hCB hC' hlen hc h8B h60 hq' hc'
  go_enter Try.func4, Try.ntmps4
  go_wp2
  go_loopg [6, 7, 8] (21 : Nat) (fun kq v6 v7 v8 w' => ∃ (i j : Nat) (Ar : Option Addr) (cr : Nat) (L : List Int), v8 = .int .i64 i ∧ v7 = .slice Ar L.length cr ∧ Aside0 (kq + i = 21 ∧ i ≤ cuts.length ∧ i ≤ 20 ∧ j ≤ B.length ∧ L.length ≤ cr ∧ L.length + j = B.length) ∧ Aside0 (B.drop j = L) ∧ Aside0 (Kd.C (Kd.int .u8) w Ar L.length L) ∧ Aside0 (LW w w' w.heap.size v6 (cutZ (B.take j)).1 (cutZ (B.take j)).2))
  case atStart => exact ⟨0, 0, A, c, B, rfl, rfl, ⟨by omega, by omega, by omega, by omega, HI.out.1, by omega⟩, ⟨rfl⟩, HCB, ⟨lw_start w⟩⟩
  case round =>
    obtain ⟨i, j, Ar, cr, L, rfl, rfl, HK, HL, HR, HW⟩ := hrel
    have hL60 : L.length ≤ 60 := by have := HI.out; have := HK.out; omega
    by_cases hT : i < cuts.length ∧ i < 20
    · have hT1 : decide ((i : Int) < (cuts.length : Int)) = true := decide_eq_true (by omega)
      have hT2 : decide ((i : Int) < 20) = true := decide_eq_true (by omega)
      obtain ⟨ad, rfl, hcell⟩ := Kd.at_int (Kd.C_below HCC.out HW.out.st.hb) (i : Int) (by omega) (by omega)
      rw [Int.toNat_natCast] at hcell
      obtain ⟨n2, hE, hn2⟩ : ∃ n2 : Nat, wrap64 ((IntKind.u64.wrap (rd cuts (i : Int))).tmod ((L.length : Int) + 1)) = (n2 : Int) ∧ n2 ≤ L.length := by
        have h0 : 0 ≤ IntKind.u64.wrap (rd cuts (i : Int)) := by rw [IntKind.wrap_u64]; omega
        have h1 := Int.tmod_lt_of_pos (IntKind.u64.wrap (rd cuts (i : Int))) (show (0 : Int) < (L.length : Int) + 1 by omega)
        have h2 := Int.tmod_nonneg ((L.length : Int) + 1) h0
        refine ⟨((IntKind.u64.wrap (rd cuts (i : Int))).tmod ((L.length : Int) + 1)).toNat, ?_, by omega⟩
        rw [Str.w64 (by omega) (by omega)]
        omega
      -- what is fed, and what is left
      obtain ⟨hcT, hrT, hlT⟩ := cut_take (P := Try.prog) (Kd.int .u8) 22 5 .i64 Try.underlying22 Str.info5 Ar cr L (n2 : Int) (by omega) (by omega) HK.out.2.2.2.2.1
      obtain ⟨A2, hcD, hrD, hlD⟩ := cut_drop (P := Try.prog) (Kd.int .u8) 22 5 .i64 Try.underlying22 Str.info5 Ar cr L (n2 : Int) (by omega) (by omega) HK.out.2.2.2.2.1
      have hRT := hrT w HR.out
      have hRD := hrD w HR.out
      obtain ⟨j2, hj2⟩ : ∃ j2, j + n2 = j2 := ⟨_, rfl⟩
      obtain ⟨hcP, hrP, hlP⟩ := cut_take (P := Try.prog) (Kd.int .u8) 22 5 .i64 Try.underlying22 Str.info5 A c B (j2 : Int) (by omega) (by have := HK.out; omega) HI.out.1
      have hRP := hrP w HCB.out
      simp only [Int.toNat_natCast] at hcT hRT hlT hcD hRD hlD hcP hRP hlP
      obtain ⟨O, H, hOH⟩ : ∃ O H, cutZ (B.take j) = (O, H) := ⟨_, _, rfl⟩
      rw [hOH] at HW
      obtain ⟨sc, hl, hsc⟩ : ∃ sc hl, cutZ (H ++ L.take n2) = (sc, hl) := ⟨_, _, rfl⟩
      have hfd := cut_feed B j j2 (by omega) (by have := HK.out; omega)
      rw [hOH, HL.out, show j2 - j = n2 by omega] at hfd
      simp only [hsc] at hfd
      have h8P : In8u (B.take j2) := fun x hx => H8.out x (List.mem_of_mem_take hx)
      have h8H : In8u (H ++ L.take n2) := fun x hx => (List.mem_append.1 hx).elim (fun h => by have := cutZ_in8 (fun y hy => H8.out y (List.mem_of_mem_take hy) : In8u (B.take j)); rw [hOH] at this; exact this x h) (fun h => H8.out x (by rw [← HL.out] at h; exact List.mem_of_mem_drop (List.mem_of_mem_take h)))
      have hsm := cut_small _ _ (Nat.le_refl _) h8P
      have hhl := (cut_held _ (B.take j2) (Nat.le_refl _)).1
      have hol := cutZ_len (B.take j2)
      have hPl : (B.take j2).length ≤ 60 := by rw [List.length_take]; have := HI.out; omega
      rw [hfd] at hsm hhl hol
      dsimp only at hsm hhl hol
      have HFD := Aside0.mk hfd
      have hDL : (L.drop n2).length + j2 = B.length := by rw [List.length_drop]; have := HK.out; omega
      have HDL := Aside0.mk (show B.drop j2 = L.drop n2 by rw [← HL.out, List.drop_drop, hj2])
      have HTL := Aside0.mk (show (L.take n2).length ≤ 1000000 by rw [List.length_take]; omega)
      obtain ⟨T, hT_⟩ : ∃ T, L.take n2 = T := ⟨_, rfl⟩
      obtain ⟨L2, hL2⟩ : ∃ L2, L.drop n2 = L2 := ⟨_, rfl⟩
      obtain ⟨P, hP⟩ : ∃ P, B.take j2 = P := ⟨_, rfl⟩
      obtain ⟨Q, hQ⟩ : ∃ Q : List Int, O ++ sc = Q := ⟨_, rfl⟩
      rw [hT_] at hcT hRT hlT hsc h8H HTL
      rw [hL2] at hcD hRD hlD hDL HDL
      rw [hP] at hcP hRP hlP HFD h8P hPl hol
      rw [hQ] at HFD hsm hol
      have HRT := Aside0.mk hRT
      have HRD := Aside0.mk hRD
      have HRP := Aside0.mk hRP
      have HLN := Aside0.mk (And.intro hlT (And.intro hlD hlP))
      have HSC := Aside0.mk hsc
      have H8P := Aside0.mk h8P
      have H8H := Aside0.mk h8H
      have HSM := Aside0.mk hsm
      have HQQ := Aside0.mk hQ
      have HQL := Aside0.mk (show Q.length ≤ 60 by omega)
      have HHL := Aside0.mk hhl
      have HPP := Aside0.mk (And.intro hP hPl)
      have HJ2 := Aside0.mk (show j2 ≤ B.length ∧ L2.length + j2 = B.length by omega)
      have hD : (B.length : Int) - (L2.length : Int) = (j2 : Int) := by omega
      have hT3 : decide ((hl.length : Int) > 3) = false := decide_eq_false (by omega)
      have hB60 : B.length ≤ 60 := HI.out.2.1
      have hL260 : L2.length ≤ 60 := by omega
      clear hrT hrD hrP hRT hRD hRP hlT hlD hlP hsc h8P h8H hsm hQ hhl hPl hol hP hfd hT_ hL2 hOH hDL hj2
      go_wp2_with (first | (go_at_call 22; go_must (refine (LW_feed HW.out Ar cr T HRT.out HLN.out.1 H8H.out HTL.out HSC.out).mono ?_); rintro e w2 ⟨A3, c3, rfl, hC3, hW⟩; have HW2 := Aside0.mk hW; have HC3 := Aside0.mk hC3; clear hW hC3) | ((with_reducible refine gate_builtin (b := .append) (xs := #[.tmp 40, .tmp 44]) rfl ?_); go_must (at_builtin); go_must (refine Kd.R_append_rows (Kd.int .i32) (w0 := w2) (w.heap.size + 1) rfl (.tmp 40) (.tmp 44) 31 21 (.int .i32 0) 4 rfl Try.underlying31 info21s rfl (by decide) (by omega) _ O sc _ _ _ (fun _ => True) (fun _ => False) rfl rfl HW2.out.ro HC3.out (fun _ _ h => h) (fun _ h => h.elim) (fun _ _ => trivial) (Below.refl _ _) HW2.out.le (by have := HQL.out; rw [← HQQ.out, List.length_append] at this; omega) ?_); intro v4 w4 ho hb hg hat; rw [HQQ.out] at ho; have HW4 := Aside0.mk (HW2.out.app ho hb); clear ho hb hg hat; obtain ⟨A4, c4, rfl, hc4, hC4⟩ := HW4.out.reads; have HC4 := Aside0.mk (And.intro hc4 hC4); clear hc4 hC4) | (go_at_call 23; go_must (refine (Cut_any A c P _ (Kd.C_below HRP.out HW4.out.st.hb) HLN.out.2.2 H8P.out (by have := HPP.out; omega) HFD.out).mono ?_); rintro e w5 ⟨A5, c5, A6, c6, rfl, hc5, hc6, hC5, hC6, hb⟩; have H5 := Aside0.mk (And.intro hc5 (And.intro hc6 (And.intro hC5 (And.intro hC6 hb)))); clear hc5 hc6 hC5 hC6 hb) | (go_at_call 18; go_must (refine (Same_any A4 c4 A5 c5 Q _ (Kd.C_below HC4.out.2 H5.out.2.2.2.2) HC4.out.1 H5.out.2.2.1 H5.out.1 HSM.out (by have := HQL.out; omega)).mono ?_); rintro e w6 ⟨rfl, hb⟩; have HW6 := Aside0.mk ((HW4.out.below H5.out.2.2.2.2).below hb); have H6 := Aside0.mk hb; clear hb) | (go_at_call 25; go_must (refine (LW_held HW6.out).mono ?_); rintro e w7 ⟨A7, c7, rfl, hc7, hC7, hW, hb⟩; have HW7 := Aside0.mk hW; have H7 := Aside0.mk (And.intro hc7 (And.intro hC7 hb)); clear hc7 hC7 hW hb) | (go_at_call 24; go_must (refine (Same8_any A7 c7 A6 c6 hl _ H7.out.2.1 H7.out.1 (Kd.C_below (Kd.C_below H5.out.2.2.2.1 H6.out) H7.out.2.2) H5.out.2.1).mono ?_); rintro e w8 ⟨rfl, hb⟩; have HW8 := Aside0.mk (HW7.out.below hb); clear hb))
      go_roundg (gk - 1)
      case measure => have := HK.out; omega
      case rel => exact ⟨i + 1, j2, A2, cr - n2, L2, by go_num, rfl, ⟨by have := HK.out; omega, by omega, by omega, HJ2.out.1, HLN.out.2.1, HJ2.out.2⟩, HDL, HRD, ⟨by rw [HPP.out.1, HFD.out]; exact HW8.out⟩⟩
    · have hjl : j ≤ B.length := HK.out.2.2.2.1
      obtain ⟨O, H, hOH⟩ : ∃ O H, cutZ (B.take j) = (O, H) := ⟨_, _, rfl⟩
      rw [hOH] at HW
      obtain ⟨sc, hl, hsc⟩ : ∃ sc hl, cutZ (H ++ L) = (sc, hl) := ⟨_, _, rfl⟩
      have hfd := cut_feed B j B.length hjl (Nat.le_refl _)
      rw [hOH, HL.out, List.take_of_length_le (Nat.le_refl B.length), List.take_of_length_le (show L.length ≤ B.length - j by have := HK.out; omega)] at hfd
      simp only [hsc] at hfd
      have h8H : In8u (H ++ L) := fun x hx => (List.mem_append.1 hx).elim (fun h => by have := cutZ_in8 (fun y hy => H8.out y (List.mem_of_mem_take hy) : In8u (B.take j)); rw [hOH] at this; exact this x h) (fun h => H8.out x (by rw [← HL.out] at h; exact List.mem_of_mem_drop h))
      obtain ⟨r, hr⟩ : ∃ r : List Int, (if hl = [] then [] else [65533]) = r := ⟨_, rfl⟩
      have hrl : r.length ≤ 1 := by rw [← hr]; split <;> simp
      have hru := cutZ_runes B
      rw [hfd] at hru
      simp only [hr] at hru
      have hol := cutZ_len B
      rw [hfd] at hol
      dsimp only at hol
      have hrs : ∀ x ∈ runesZ B, -2147483648 ≤ x ∧ x ≤ 2147483647 := fun x hx => by
        have := (scalar_iff x).1 (runes_scalar _ B (Nat.le_refl _) H8.out x hx)
        omega
      obtain ⟨Q, hQ⟩ : ∃ Q : List Int, O ++ sc = Q := ⟨_, rfl⟩
      obtain ⟨Z, hZ⟩ : ∃ Z : List Int, Q ++ r = Z := ⟨_, rfl⟩
      rw [hQ] at hru hol
      rw [hZ] at hru
      rw [hru] at hrs
      have hzl : Z.length ≤ 61 := by rw [← hZ, List.length_append]; have := HI.out; omega
      have hql : O.length + sc.length = Q.length := by rw [← hQ, List.length_append]
      have HLC := Aside0.mk HK.out.2.2.2.2.1
      have HSC := Aside0.mk hsc
      have H8H := Aside0.mk h8H
      have HRR := Aside0.mk hr
      have HRU := Aside0.mk hru
      have HRS := Aside0.mk hrs
      have HQQ := Aside0.mk hQ
      have HZZ := Aside0.mk hZ
      have HZL := Aside0.mk (And.intro hzl (And.intro hql (show Q.length ≤ 60 by have := HI.out; omega)))
      have HLL := Aside0.mk (show L.length ≤ 1000000 by omega)
      clear hOH hsc hfd h8H hr hru hol hrs hQ hZ hzl hql hrl hjl
      go_wp2_with (first | (go_at_call 22; (with_reducible refine (LW_feed HW.out Ar cr L HR.out HLC.out H8H.out HLL.out HSC.out).mono ?_); rintro e w2 ⟨A3, c3, rfl, hC3, hW⟩; have HW2 := Aside0.mk hW; have HC3 := Aside0.mk hC3; clear hW hC3) | ((with_reducible refine gate_builtin (b := .append) (xs := #[.tmp 75, .tmp 77]) rfl ?_); go_must (at_builtin); go_must (refine Kd.R_append_rows (Kd.int .i32) (w0 := w2) (w.heap.size + 1) rfl (.tmp 75) (.tmp 77) 31 21 (.int .i32 0) 4 rfl Try.underlying31 info21s rfl (by decide) (by omega) _ O sc _ _ _ (fun _ => True) (fun _ => False) rfl rfl HW2.out.ro HC3.out (fun _ _ h => h) (fun _ h => h.elim) (fun _ _ => trivial) (Below.refl _ _) HW2.out.le (by have := HZL.out; omega) ?_); intro v4 w4 ho hb hg hat; rw [HQQ.out] at ho; have HW4 := Aside0.mk (HW2.out.app ho hb); clear ho hb hg hat) | (go_at_call 26; (with_reducible refine (LW_flush HW4.out HRR.out).mono ?_); rintro e w5 ⟨A5, c5, rfl, hC5, hW, hg⟩; have HW5 := Aside0.mk hW; have HC5 := Aside0.mk hC5; clear hW hC5 hg) | ((with_reducible refine gate_builtin (b := .append) (xs := #[.tmp 79, .tmp 80]) rfl ?_); go_must (at_builtin); go_must (refine Kd.R_append_rows (Kd.int .i32) (w0 := w5) (w.heap.size + 1) rfl (.tmp 79) (.tmp 80) 31 21 (.int .i32 0) 4 rfl Try.underlying31 info21s rfl (by decide) (by omega) _ Q r _ _ _ (fun _ => True) (fun _ => False) rfl rfl HW5.out.ro HC5.out (fun _ _ h => h) (fun _ h => h.elim) (fun _ _ => trivial) (Below.refl _ _) HW5.out.le (by have := HZL.out; rw [← HZZ.out, List.length_append] at this; omega) ?_); intro v6 w6 ho hb hg hat; rw [HZZ.out] at ho; have HW6 := Aside0.mk (HW5.out.app ho hb); clear ho hb hg hat; obtain ⟨A6, c6, rfl, hc6, hC6⟩ := HW6.out.reads; have HC6 := Aside0.mk (And.intro hc6 hC6); clear hc6 hC6) | (go_at_call 17; refine (known_anyS _).mono ?_; rintro e w7 ⟨rfl, hb⟩; have H7 := Aside0.mk hb; clear hb) | (go_at_call 16; go_must (refine (Runes_any A c B _ (Kd.C_below HCB.out (HW6.out.below H7.out).st.hb) HI.out.1 H8.out (by have := HI.out; omega) HRU.out).mono ?_); rintro e w8 ⟨A8, c8, rfl, hc8, hC8, hb⟩; have H8' := Aside0.mk (And.intro hc8 (And.intro hC8 hb)); clear hc8 hC8 hb) | (go_at_call 18; go_must (refine (Same_any A6 c6 A8 c8 Z _ (Kd.C_below (Kd.C_below HC6.out.2 H7.out) H8'.out.2.2) HC6.out.1 H8'.out.2.1 H8'.out.1 HRS.out (by have := HZL.out; omega)).mono ?_); rintro e w9 ⟨rfl, hb⟩; have HW9 := Aside0.mk (((HW6.out.below H7.out).below H8'.out.2.2).below hb); clear hb) | (go_at_call 25; (with_reducible refine (LW_held HW9.out).mono ?_); rintro e wa ⟨Aa, ca, rfl, hca, hCa, hW, hb⟩; have HWa := Aside0.mk hW; clear hca hCa hW hb) | (go_at_call 26; (with_reducible refine (LW_flush HWa.out flush0).mono ?_); rintro e wb ⟨Ab, cb, rfl, hCb, hW, hg⟩; have HWb := Aside0.mk hW; clear hW hCb hg) | (go_at_call 22; (with_reducible refine (Feed_nil _ _).mono ?_); rintro e wx ⟨rfl, rfl⟩) | (go_at_call 25; (with_reducible refine (Held_nil _).mono ?_); rintro e wx ⟨rfl, rfl⟩) | (go_at_call 26; (with_reducible refine (Flush_nil _).mono ?_); rintro e wx ⟨rfl, rfl⟩))
      all_goals go_ret
      all_goals exact ⟨rfl, HWb.out.st.hb⟩
theorem own_UtfStreams : ownKnob Try.prog.godebug = none := by kernel_rfl
theorem laidOut_UtfStreams : laidOutB Try.prog = true := by kernel_rfl
set_option maxRecDepth 100000 in
theorem lifted_UtfStreams (os : Os) (started : os.Started) (H : Type) (enc : TypeId × Value → H) :
    ReturnsInHanded {} Try.checked os 4 .any (Rows.utfStreamsSpec.pre6 enc Try.prog Try.f4 Rows.utfStreamsRow.domain false) (Rows.utfStreamsSpec.post enc Try.prog Try.f4 false true false false) := by
  refine returnsInHanded_of_change (C := Try.checked) own_UtfStreams started (by kernel_rfl) Try.func4
    (ChangeSpec.witness6 (enc := enc) (C := Try.checked) false ⟨#[], #[.slice none 0 0, .slice none 0 0], []⟩ 8 (by kernel_rfl) (by kernel_rfl) (by kernel_rfl) (by kernel_rfl)) ?_
  intro W base args ds gs before hval0 hW hcnd _
  have hval : ∀ (j : Nat) t v, Try.f4.params[j]? = some t → args[j]? = some v → Value.okWide Try.prog W .any base t v := hval0
  have hW' := hW
  obtain ⟨p, q, hA0, hV, rfl, hfz, hnd⟩ := hW
  have hA : DataW.TrodAll enc Try.prog W 0 (fun _ => true) true Try.f4.params.toList args.toList ds p := hA0
  rw [Try.params4] at hA hval
  obtain ⟨v0, vs0, d0, ds0, p0, q0, hargs, rfl, rfl, h0, r0⟩ := trodAll_cons hA
  obtain ⟨v1, vs1, d1, ds1, p1, q1, rfl, rfl, rfl, h1, r1⟩ := trodAll_cons r0
  obtain ⟨rfl, rfl, rfl⟩ := trodAll_nil r1
  obtain rfl : args = #[v0, v1] := by cases args; simp_all
  obtain ⟨rfl, rfl⟩ := trodVars_none hV
  obtain ⟨a0, len0, cap0, rfl⟩ := okWide_slice Try.underlying22 (hval 0 22 v0 rfl rfl)
  have k0 := h0
  have lt0 : ∀ x ∈ p0, x.block < W.heap.size := by obtain ⟨m, hm⟩ := k0; exact DataW.trod_lt m _ _ _ hm
  obtain ⟨l0, rfl, hC0, hc0, hq0⟩ := open_sl (Opn.slice (d := Kd.int .u8) Try.underlying22 (by kernel_rfl) (Opn.int Try.underlying5)) h0
  obtain ⟨a1, len1, cap1, rfl⟩ := okWide_slice Try.underlying27 (hval 1 27 v1 rfl rfl)
  have k1 := h1
  have lt1 : ∀ x ∈ p1, x.block < W.heap.size := by obtain ⟨m, hm⟩ := k1; exact DataW.trod_lt m _ _ _ hm
  obtain ⟨l1, rfl, hC1, hc1, hq1⟩ := open_sl (Opn.slice (d := Kd.int .i64) Try.underlying27 (by kernel_rfl) (Opn.int Try.underlying3)) h1
  refine (walk_UtfStreams a0 cap0 l0 a1 cap1 l1 W hC0 hc0 hq0 hC1 hc1 hq1).mono fun e W' ⟨he, bel⟩ => ?_
  subst he
  exact ⟨_, rfl, _, _, _, [], _, [], hW', trodAll_mk1 (shut_bool Try.underlying4 _), (trodAll_cons_mk (Below.trod laidOut_UtfStreams (by kernel_rfl) (of_decide_eq_true (by kernel_rfl)) k0 bel lt0) (trodAll_cons_mk (Below.trod laidOut_UtfStreams (by kernel_rfl) (of_decide_eq_true (by kernel_rfl)) k1 bel lt1) trodAll_mk0)), rfl, bel.frame _, fun h => by cases h⟩
/-- The row. -/
theorem UtfStreams_holds : Rows.UtfStreamsSaid :=
  OpenClaim.holds_of_wide 4 Try.f4 rfl rfl rfl rfl rfl rfl rfl ⟨rfl, rfl, rfl, rfl, rfl⟩ rfl rfl rfl rfl rfl (by kernel_rfl) Try.func4 (by kernel_rfl)
    (of_decide_eq_true (by kernel_rfl)) (by unfold Func.isWrapper; first | (rw [if_pos (by decide +kernel)]; kernel_rfl) | (rw [if_neg (by decide +kernel)]; exact ⟨rfl, rfl⟩))
    (fun os started H enc _ => lifted_UtfStreams os started H enc)
#print axioms UtfStreams_holds
end Go.Proofs.Ytglcopljhanhmaa
