/- NumBytes holds: the bytes of any numbers are the document's, and read as they were. No condition. -/
import Derived.Test.YtjomlpogdemgpaaRows
import Derived.Test.YtjomlpogdemgpaaNumKnown
import Derived.Test.YtjomlpogdemgpaaOpn
import Derived.ProofKit
import Derived.OpenShut
namespace Go.Proofs.Ytjomlpogdemgpaa
open Go.ChangeShapes Go.WideShapes Go.ChangeAt Go.RowKit Go.Proofs.YtjomlpogdemgpaaW.PrintWords Go.Proofs.YtjomlpogdemgpaaW.PrintLast Go.Proofs.YtjomlpogdemgpaaW.PrintMore
set_option linter.unusedVariables false
set_option linter.unusedSimpArgs false

theorem rdNum_at (l : List Int) (h64 : In64 l) (i : Nat) (h : i < l.length) : rdNum 0 0 ((encAll l).drop (encAll (l.take i)).length) = (rd l i, ((encN (rd l i)).length : Int), 0) ∧ (encAll (l.take (i + 1))).length = (encAll (l.take i)).length + (encN (rd l i)).length := by
  have hx := h64 _ (rd_mem l i h)
  have e : encAll l = encAll (l.take i) ++ (encN (rd l i) ++ encAll (l.drop (i + 1))) := by
    rw [← encAll_cons, ← drop_rd l i h, ← encAll_append, List.take_append_drop]
  constructor
  · rw [e, List.drop_left, rdNum_encN _ _ 0 0 hx.1 (by decide) (by omega) (by simpa using hx.2)]
    simp
  · rw [take_rd l i h, encAll_append, List.length_append, encAll_cons]; simp [encAll]

theorem wf_u64s {l : List Int} (h : ∀ x ∈ l, (Lit.int .u64 x).wf = true) : In64 l := fun x hx => by have := bounds_u64 (h x hx); omega
theorem info22 : (Try.prog.info? 22).map (fun i => (i.zero, i.size, i.bytes)) = some (some (.int .u64 0), 1, 8) := by kernel_rfl
attribute [local go_sem] max2_int min2_int max_two min_two
/-- What holds in the loop. -/
def InBytes (l : List Int) (k : Nat) (p : Int) : Prop := k ≤ l.length ∧ p = ((encAll (l.take k)).length : Int)

set_option maxRecDepth 100000 in
set_option maxHeartbeats 2000000 in
theorem walk_NumBytes (A : Option Addr) (c : Nat) (l : List Int) (w : World) (hC : Kd.C (Kd.int .u64) w A l.length l) (hc : l.length ≤ c) (hq : ∀ x ∈ l, (Lit.int .u64 x).wf = true) :
    Calls Try.prog 5 #[.slice A l.length c] w fun r w' => r = .returned (.bool true) ∧ Below w.heap.size w w' := by
  have h64 := wf_u64s hq
  obtain ⟨n, hn⟩ : ∃ n, n = min l.length 30 := ⟨_, rfl⟩
  obtain ⟨hcut, hread, hlen⟩ := cut_take (P := Try.prog) (Kd.int .u64) 40 22 .i64 Try.underlying40 info22 A c l (n : Int) (by omega) (by omega) hc
  have hmin : (if (30 : Int) < (l.length : Int) then (30 : Int) else (l.length : Int)) = (n : Int) := by split <;> omega
  have hl : (l.take n).length = n := by rw [List.length_take]; omega
  simp only [Int.toNat_natCast] at hcut hread hlen
  have hC2 := hread w hC
  have h642 := h64.take n
  have hn30 : n ≤ 30 := by omega
  clear hC hread h64 hn hq
  generalize l.take n = L at *
  obtain rfl : n = L.length := hl.symm
  clear hl
  have HC := Aside0.mk hC2
  have H64 := Aside0.mk h642
  have HLE := Aside0.mk (encAll_len h642)
  have H8 := Aside0.mk (encAll_in8 (fun x hx => (h642 x hx).1))
  have HBY := Aside0.mk (fun w' (hb : Below w.heap.size w w') => Bytes_any A c L w' (C_below0 hC2 hb) h642 (by omega))
  have HAL := Aside0.mk (fun w' (hb : Below w.heap.size w w') => rAll_any A c L w' (C_below0 hC2 hb) h642 (by omega))
  have HBL := Aside0.mk (show (encAll L).length ≤ 140737488355328 by have := encAll_len h642; omega)
  clear hC2 h642
  go_enter Try.func5, Try.ntmps5
  go_wp2_with (first | (go_at_call 24; refine (HBY.out _ (Below.refl _ _)).mono ?_; rintro r w1 ⟨v, rfl, hR, hb⟩; have HB1 := Aside0.mk hb; obtain ⟨A1, c1, rfl, hc1, hC1⟩ := Kd.R_reads hR; have HC1 := Aside0.mk hC1; have HCL1 := Aside0.mk hc1; clear hR hb hC1 hc1) | (go_at_call 26; refine (HAL.out _ HB1.out).mono ?_; rintro r w2 ⟨v, rfl, hR, hb⟩; obtain ⟨A2, c2, rfl, -, hC2⟩ := Kd.R_reads hR; have HS := Aside0.mk (rSame_any A1 A2 c1 c2 (encAll L) (encAll L) w2 (C_below0 HC1.out hb) hC2 H8.out H8.out); have HB2 := Aside0.mk (below_step HB1.out hb); have HC2 := Aside0.mk (C_below0 HC1.out hb); clear hR hb hC2) | (go_at_call 25; refine HS.out.mono ?_; rintro r w2 ⟨rfl, rfl⟩))
  go_loopg [4, 5] L.length (fun kq v4 v5 w' => ∃ (k : Nat) (p : Int), v4 = .int .i64 p ∧ v5 = .int .i64 k ∧ Aside0 (kq = L.length - k) ∧ Aside0 (InBytes L k p) ∧ Aside0 (Below w2.heap.size w2 w'))
  case atStart => exact ⟨0, 0, rfl, rfl, ⟨by omega⟩, ⟨by omega, by simp [encAll]⟩, ⟨Below.refl _ _⟩⟩
  case round =>
    obtain ⟨k, p, rfl, rfl, HK, HI, HB⟩ := hrel
    have hk := HI.out.1
    by_cases hlt : k < L.length
    · have hp := HI.out.2
      have hp0 : 0 ≤ p := by omega
      have hple : p ≤ (encAll L).length := by
        rw [hp]
        have : encAll L = encAll (L.take k) ++ encAll (L.drop k) := by rw [← encAll_append, List.take_append_drop]
        rw [this, List.length_append]; omega
      obtain ⟨hrd, hlen2⟩ := rdNum_at L H64.out k hlt
      have hptn : (encAll (L.take k)).length = p.toNat := by omega
      rw [hptn] at hrd hlen2
      obtain ⟨A', hcut2, hread2, hlen3⟩ := cut_drop (P := Try.prog) (Kd.int .u8) 29 5 .i64 Try.underlying29 info5 A1 c1 (encAll L) p hp0 hple HCL1.out
      have HRD := Aside0.mk (Read_of A' (c1 - p.toNat) ((encAll L).drop p.toNat) wr _ _ _ (C_below0 (hread2 _ HC2.out) HB.out) (H8.out.drop _) hrd)
      have e1 : ((encAll L).drop p.toNat).length = (encAll L).length - p.toNat := List.length_drop
      rw [e1] at HRD hcut2
      obtain ⟨ad, rfl, hc0⟩ := Kd.at_int HC.out (k : Int) (by omega) (by omega)
      simp only [Int.toNat_natCast] at hc0
      have hbw : Below w.heap.size w wr := below_step HB2.out HB.out
      replace hc0 := (hbw.cell (World.block_lt_of_cell? w _ hc0)).trans hc0
      have hx := H64.out _ (rd_mem L k hlt)
      have HSZ := Aside0.mk (Size_any (rd L k) wr hx.1 hx.2)
      have HRB := Aside0.mk (rBytes_any (rd L k) wr hx.1 hx.2)
      have HNX := Aside0.mk (show InBytes L (k + 1) (p + (encN (rd L k)).length) from ⟨by omega, by omega⟩)
      have HLN := Aside0.mk (encN_len10 _ hx.2)
      have hpb : p ≤ 140737488355328 := by have := HBL.out; omega
      have hq10 : (encN (rd L k)).length ≤ 10 := HLN.out
      clear hread2 hlen3 hrd hlen2 hptn e1 hp hple hx hbw
      generalize encN (rd L k) = en at *
      go_wp2_with (first | (go_at_call 27; refine HRD.out.mono ?_; rintro r w3 ⟨rfl, rfl⟩) | (go_at_call 28; refine HSZ.out.mono ?_; rintro r w3 ⟨rfl, rfl⟩) | (go_at_call 29; refine HRB.out.mono ?_; rintro r w3 ⟨v, rfl, hR, hb⟩; obtain ⟨A3, c3, rfl, -, -⟩ := Kd.R_reads hR; have HB3 := Aside0.mk (below_step HB.out hb); clear hR hb))
      go_roundg (L.length - (k + 1))
      case measure => have := HK.out; omega
      case rel => exact ⟨k + 1, _, rfl, by go_num, ⟨rfl⟩, HNX, HB3⟩
    · have hk' : k = L.length := by omega
      have HT := Aside0.mk (show p = (encAll L).length by rw [HI.out.2, hk', List.take_length])
      have k1 : (p == ((encAll L).length : Int)) = true := by rw [HT.out]; simp
      clear hk'
      go_wp2_with (first | (go_at_call 15; refine (known_any _).mono ?_; rintro r w3 ⟨rfl, hb⟩; have HB3 := Aside0.mk (below_step HB.out hb); clear hb))
      go_ret
      exact ⟨rfl, below_step HB2.out HB3.out⟩
theorem own_NumBytes : ownKnob Try.prog.godebug = none := by kernel_rfl
theorem laidOut_NumBytes : laidOutB Try.prog = true := by kernel_rfl
set_option maxRecDepth 100000 in
theorem lifted_NumBytes (os : Os) (started : os.Started) (H : Type) (enc : TypeId × Value → H) :
    ReturnsInHanded {} Try.checked os 5 .any (Rows.numBytesSpec.pre6 enc Try.prog Try.f5 Rows.numBytesRow.domain false) (Rows.numBytesSpec.post enc Try.prog Try.f5 false true false false) := by
  refine returnsInHanded_of_change (C := Try.checked) own_NumBytes started (by kernel_rfl) Try.func5
    (ChangeSpec.witness6 (enc := enc) (C := Try.checked) false ⟨#[], #[.slice none 0 0], []⟩ 8 (by kernel_rfl) (by kernel_rfl) (by kernel_rfl) (by kernel_rfl)) ?_
  intro W base args ds gs before hval0 hW hcnd _
  have hval : ∀ (j : Nat) t v, Try.f5.params[j]? = some t → args[j]? = some v → Value.okWide Try.prog W .any base t v := hval0
  have hW' := hW
  obtain ⟨p, q, hA0, hV, rfl, hfz, hnd⟩ := hW
  have hA : DataW.TrodAll enc Try.prog W 0 (fun _ => true) true Try.f5.params.toList args.toList ds p := hA0
  rw [Try.params5] at hA hval
  obtain ⟨v0, vs0, d0, ds0, p0, q0, hargs, rfl, rfl, h0, r0⟩ := trodAll_cons hA
  obtain ⟨rfl, rfl, rfl⟩ := trodAll_nil r0
  obtain rfl : args = #[v0] := by cases args; simp_all
  obtain ⟨rfl, rfl⟩ := trodVars_none hV
  obtain ⟨a0, len0, cap0, rfl⟩ := okWide_slice Try.underlying40 (hval 0 40 v0 rfl rfl)
  have k0 := h0
  have lt0 : ∀ x ∈ p0, x.block < W.heap.size := by obtain ⟨m, hm⟩ := k0; exact DataW.trod_lt m _ _ _ hm
  obtain ⟨l0, rfl, hC0, hc0, hq0⟩ := open_sl (Opn.slice (d := Kd.int .u64) Try.underlying40 (by kernel_rfl) (Opn.int Try.underlying22)) h0
  refine (walk_NumBytes a0 cap0 l0 W hC0 hc0 hq0).mono fun e W' ⟨he, bel⟩ => ?_
  subst he
  exact ⟨_, rfl, _, _, _, [], _, [], hW', trodAll_mk1 (shut_bool Try.underlying4 _), (trodAll_cons_mk (Below.trod laidOut_NumBytes (by kernel_rfl) (of_decide_eq_true (by kernel_rfl)) k0 bel lt0) trodAll_mk0), rfl, bel.frame _, fun h => by cases h⟩
/-- The row. -/
theorem NumBytes_holds : Rows.NumBytesSaid :=
  OpenClaim.holds_of_wide 5 Try.f5 rfl rfl rfl rfl rfl rfl rfl ⟨rfl, rfl, rfl, rfl, rfl⟩ rfl rfl rfl rfl rfl (by kernel_rfl) Try.func5 (by kernel_rfl)
    (of_decide_eq_true (by kernel_rfl)) (by unfold Func.isWrapper; first | (rw [if_pos (by decide +kernel)]; kernel_rfl) | (rw [if_neg (by decide +kernel)]; exact ⟨rfl, rfl⟩))
    (fun os started H enc _ => lifted_NumBytes os started H enc)
#print axioms NumBytes_holds
end Go.Proofs.Ytjomlpogdemgpaa
