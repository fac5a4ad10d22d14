/- KeyOf holds: the key of any bytes. No condition. -/
import Derived.Test.YtglcopljhanhmaaRows
import Derived.Test.YtglcopljhanhmaaPureKeyOf
import Derived.Test.YtglcopljhanhmaaOpn
import Derived.ProofKit
import Derived.OpenShut
namespace Go.Proofs.Ytglcopljhanhmaa
open Go.ChangeShapes Go.WideShapes Go.ChangeAt Go.RowKit Go.Proofs.YtglcopljhanhmaaW.PrintWords Go.Proofs.YtglcopljhanhmaaW.PrintLast Go.Proofs.YtglcopljhanhmaaW.PrintMore Go.Proofs.Ytglcopljhanhmaa.PKeyOf
set_option linter.unusedVariables false
set_option linter.unusedSimpArgs false
theorem info5l : (Try.prog.info? 5).map (fun i => (i.zero, i.size, i.bytes)) = some (some (.int .u8 0), 1, 1) := by kernel_rfl
theorem kb_utf (A : Option Addr) (c : Nat) (r : Int) (w : World) (hC : (Kd.int .i32).C w A 1 [r]) (hc : 1 ≤ c) :
    Calls Try.prog 27 #[.slice A 1 c] w fun e w' => ∃ v, e = .returned v ∧ Kd.R (Kd.int .u8) 5 w' w.heap.size (fun _ => True) v (enc (mendK r)) ∧ Below w.heap.size w w' :=
  utf_Bytes.calls 100 A c [r] (enc (mendK r)) w hC hc (Pure.ub_one r)
theorem kb_any (k r : Int) (r1 : List Int) (r2 : Bool) (w : World) (hq : bytesK k r = (r1, r2)) :
    Calls Try.prog 47 #[.agg #[.int .i64 k, .int .i32 r]] w fun e w' => ∃ A c, e = .returned (.tuple #[.slice A r1.length c, .bool r2]) ∧ r1.length ≤ c ∧ (Kd.int .u8).C w' A r1.length r1 ∧ Below w.heap.size w w' :=
  Bytes_walk kb_utf kPlain k r r1 r2 w hq
theorem ko_of (A : Option Addr) (c : Nat) (l : List Int) (r1 r2 : Int) (w : World) (hC : (Kd.int .u8).C w A l.length l) (hc : l.length ≤ c) (h8 : In8u l) (hl : l.length ≤ 1000) (hq : ofK l = (r1, r2)) :
    Calls Try.prog 46 #[.slice A l.length c] w fun e w' => e = .returned (.agg #[.int .i64 r1, .int .i32 r2]) ∧ Below w.heap.size w w' :=
  key_Of.calls A c l r1 r2 w hC hc (by unfold key_Of.f; rw [if_pos ⟨all8K.2 h8, hl⟩, hq])
theorem ko_ref (A : Option Addr) (c : Nat) (l : List Int) (r1 r2 : Int) (w : World) (hC : (Kd.int .u8).C w A l.length l) (hc : l.length ≤ c) (h8 : In8u l) (hl : l.length ≤ 100) (hq : ofK l = (r1, r2)) :
    Calls Try.prog 49 #[.slice A l.length c] w fun e w' => e = .returned (.agg #[.int .i64 r1, .int .i64 r2]) ∧ Below w.heap.size w w' :=
  prolepsisref22_Of.calls 1000 A c l r1 r2 w hC hc (by rw [Pure.of_ref l h8 hl 1000 (by omega), hq])
theorem ko_law (k r : Int) (w : World) (hr : -2147483648 ≤ r ∧ r ≤ 2147483647) :
    Calls Try.prog 48 #[.agg #[.int .i64 k, .int .i32 r]] w fun e w' => e = .returned (.agg #[.int .i64 k, .int .i64 r]) ∧ Below w.heap.size w w' :=
  prolepsislaw22_Of.calls k r k r w (by unfold prolepsislaw22_Of.f; rw [w64 (by omega) (by omega)])
attribute [local irreducible] ofK bytesK kindZ plainK validK
set_option maxRecDepth 100000 in
set_option maxHeartbeats 1000000 in
theorem walk_KeyOf (A : Option Addr) (c : Nat) (l : List Int) (w : World) (hC : Kd.C (Kd.int .u8) w A l.length l) (hc : l.length ≤ c) (hq : ∀ x ∈ l, (Lit.int .u8 x).wf = true) :
    Calls Try.prog 12 #[.slice A l.length c] w fun e w' => e = .returned (.bool true) ∧ Below w.heap.size w w' := by
  have h8 : In8u l := fun x hx => by have := bounds_u8 (hq x hx); omega
  obtain ⟨n, hn⟩ : ∃ n, n = min l.length 20 := ⟨_, rfl⟩
  obtain ⟨hcut, hread, hlen⟩ := cut_take (P := Try.prog) (Kd.int .u8) 22 5 .i64 Try.underlying22 info5l A c l (n : Int) (by omega) (by omega) hc
  have hmin : (if (20 : Int) < (l.length : Int) then (20 : Int) else (l.length : Int)) = (n : Int) := by split <;> omega
  have hmin2 : min (l.length : Int) 20 = (n : Int) := by omega
  have hl : (l.take n).length = n := by rw [List.length_take]; omega
  simp only [Int.toNat_natCast] at hcut hread hlen
  have hCB := hread w hC
  have h8B : In8u (l.take n) := fun x hx => h8 x (List.mem_of_mem_take hx)
  have h20 : n ≤ 20 := by omega
  clear hC hread h8 hn hq
  generalize l.take n = B at *
  obtain rfl : n = B.length := hl.symm
  obtain ⟨⟨r1, r2⟩, hrr⟩ : ∃ p, ofK B = p := ⟨_, rfl⟩
  obtain ⟨⟨c1, ok⟩, hbb⟩ : ∃ p, bytesK r1 r2 = p := ⟨_, rfl⟩
  have hfin := Pure.key_fits B h8B r1 r2 hrr c1 ok hbb
  obtain ⟨hr32, hok, heq⟩ := hfin
  obtain ⟨sB, hsB⟩ : ∃ s, strOfNums B = s := ⟨_, rfl⟩
  have hcB : ∀ W, Below w.heap.size w W → (Go.convert 22 9 (.slice A B.length c)).run Try.prog W = .ok (.string sB) W := fun W hb => by
    have := Kd.C_string (P := Try.prog) (c := c) Try.underlying22 Try.underlying5 Try.underlying9 (Kd.C_below hCB hb)
    rw [hsB] at this
    exact this
  have HCV := Aside0.mk hcB
  have HSB := Aside0.mk hsB
  have HCB := Aside0.mk hCB
  have HI := Aside0.mk (And.intro hlen h20)
  have H8 := Aside0.mk h8B
  have HRR := Aside0.mk hrr
  have HBB := Aside0.mk hbb
  have H32 := Aside0.mk hr32
  have HOK := Aside0.mk hok
  have HEQ := Aside0.mk heq
  clear hl hCB hlen hc h8B h20 hrr hbb hr32 hok heq hcB hsB
  obtain ⟨s2, hs2⟩ : ∃ s, strOfNums c1 = s := ⟨_, rfl⟩
  have HS2 := Aside0.mk hs2
  have hnn : (B.length : Int) ≤ 20 := by have := HI.out; omega
  cases ok
  · have hT : (false == (r1 != 8)) = true := by rw [← HOK.out]; rfl
    clear hs2
    go_enter Try.func12, Try.ntmps12
    go_wp2_with (first | (go_at_call 46; go_must (refine (ko_of A c B r1 r2 _ HCB.out HI.out.1 H8.out (by have := HI.out; omega) HRR.out).mono ?_); rintro e w1 ⟨rfl, hb⟩; have HB1 := Aside0.mk hb; clear hb) | (go_at_call 47; go_must (refine (kb_any r1 r2 c1 false _ HBB.out).mono ?_); rintro e w2 ⟨A2, c2, rfl, hc2, hC2, hb⟩; have hx2 := blk_below (blk_new w1 (.cells #[.int .i64 r1, .int .i32 r2] 70)) hb; have HB2 := Aside0.mk (below_then (below_alloc HB1.out _) (below_alloc HB1.out _).size hb); have HC2 := Aside0.mk hC2; have hc02 : w2.cell? ⟨w1.heap.size, 0, none⟩ = some (.int .i64 r1) := (blk_cell hx2 0).trans rfl; have hc12 : w2.cell? ⟨w1.heap.size, 1, none⟩ = some (.int .i32 r2) := (blk_cell hx2 1).trans rfl; have HX2 := Aside0.mk hx2; clear hx2; clear hb hc2 hC2) | (go_at_call 45; refine (prolepsislaw22_known.calls true _ rfl).mono ?_; rintro e w3 ⟨rfl, hb⟩; have HC3 := Aside0.mk (Kd.C_below HC2.out hb); have hx3 := blk_below HX2.out hb; have HB3 := Aside0.mk (below_then HB2.out HB2.out.size hb); have hc03 : w3.cell? ⟨w1.heap.size, 0, none⟩ = some (.int .i64 r1) := (blk_cell hx3 0).trans rfl; have hc13 : w3.cell? ⟨w1.heap.size, 1, none⟩ = some (.int .i32 r2) := (blk_cell hx3 1).trans rfl; have HX3 := Aside0.mk hx3; clear hx3; clear hb) | (go_at_call 48; go_must (refine (ko_law r1 r2 _ H32.out).mono ?_); rintro e w4 ⟨rfl, hb⟩; have HC4 := Aside0.mk (Kd.C_below HC3.out hb); have hx4 := blk_below HX3.out hb; have HB4 := Aside0.mk (below_then HB3.out HB3.out.size hb); have hc04 : w4.cell? ⟨w1.heap.size, 0, none⟩ = some (.int .i64 r1) := (blk_cell hx4 0).trans rfl; have hc14 : w4.cell? ⟨w1.heap.size, 1, none⟩ = some (.int .i32 r2) := (blk_cell hx4 1).trans rfl; have HX4 := Aside0.mk hx4; clear hx4; clear hb) | (go_at_call 49; go_must (refine (ko_ref A c B r1 r2 _ (Kd.C_below HCB.out HB4.out) HI.out.1 H8.out (by have := HI.out; omega) HRR.out).mono ?_); rintro e w5 ⟨rfl, hb⟩; have HC5 := Aside0.mk (Kd.C_below HC4.out hb); have hx5 := blk_below HX4.out hb; have HB5 := Aside0.mk (below_then HB4.out HB4.out.size hb); have hc05 : w5.cell? ⟨w1.heap.size, 0, none⟩ = some (.int .i64 r1) := (blk_cell hx5 0).trans rfl; have hc15 : w5.cell? ⟨w1.heap.size, 1, none⟩ = some (.int .i32 r2) := (blk_cell hx5 1).trans rfl; have HX5 := Aside0.mk hx5; clear hx5; have hq1 := HCV.out w5 HB5.out; have hq2 := Kd.C_string (P := Try.prog) (c := c2) Try.underlying22 Try.underlying5 Try.underlying9 HC5.out; rw [HS2.out] at hq2; clear hb))
    all_goals go_ret
    all_goals exact ⟨rfl, HB5.out⟩
  · have hT : (true == (r1 != 8)) = true := by rw [← HOK.out]; rfl
    obtain rfl : sB = s2 := by rw [← hs2, HEQ.out rfl, HSB.out]
    clear hs2
    go_enter Try.func12, Try.ntmps12
    go_wp2_with (first | (go_at_call 46; go_must (refine (ko_of A c B r1 r2 _ HCB.out HI.out.1 H8.out (by have := HI.out; omega) HRR.out).mono ?_); rintro e w1 ⟨rfl, hb⟩; have HB1 := Aside0.mk hb; clear hb) | (go_at_call 47; go_must (refine (kb_any r1 r2 c1 true _ HBB.out).mono ?_); rintro e w2 ⟨A2, c2, rfl, hc2, hC2, hb⟩; have hx2 := blk_below (blk_new w1 (.cells #[.int .i64 r1, .int .i32 r2] 70)) hb; have HB2 := Aside0.mk (below_then (below_alloc HB1.out _) (below_alloc HB1.out _).size hb); have HC2 := Aside0.mk hC2; have hc02 : w2.cell? ⟨w1.heap.size, 0, none⟩ = some (.int .i64 r1) := (blk_cell hx2 0).trans rfl; have hc12 : w2.cell? ⟨w1.heap.size, 1, none⟩ = some (.int .i32 r2) := (blk_cell hx2 1).trans rfl; have HX2 := Aside0.mk hx2; clear hx2; clear hb hc2 hC2) | (go_at_call 45; refine (prolepsislaw22_known.calls true _ rfl).mono ?_; rintro e w3 ⟨rfl, hb⟩; have HC3 := Aside0.mk (Kd.C_below HC2.out hb); have hx3 := blk_below HX2.out hb; have HB3 := Aside0.mk (below_then HB2.out HB2.out.size hb); have hc03 : w3.cell? ⟨w1.heap.size, 0, none⟩ = some (.int .i64 r1) := (blk_cell hx3 0).trans rfl; have hc13 : w3.cell? ⟨w1.heap.size, 1, none⟩ = some (.int .i32 r2) := (blk_cell hx3 1).trans rfl; have HX3 := Aside0.mk hx3; clear hx3; clear hb) | (go_at_call 48; go_must (refine (ko_law r1 r2 _ H32.out).mono ?_); rintro e w4 ⟨rfl, hb⟩; have HC4 := Aside0.mk (Kd.C_below HC3.out hb); have hx4 := blk_below HX3.out hb; have HB4 := Aside0.mk (below_then HB3.out HB3.out.size hb); have hc04 : w4.cell? ⟨w1.heap.size, 0, none⟩ = some (.int .i64 r1) := (blk_cell hx4 0).trans rfl; have hc14 : w4.cell? ⟨w1.heap.size, 1, none⟩ = some (.int .i32 r2) := (blk_cell hx4 1).trans rfl; have HX4 := Aside0.mk hx4; clear hx4; clear hb) | (go_at_call 49; go_must (refine (ko_ref A c B r1 r2 _ (Kd.C_below HCB.out HB4.out) HI.out.1 H8.out (by have := HI.out; omega) HRR.out).mono ?_); rintro e w5 ⟨rfl, hb⟩; have HC5 := Aside0.mk (Kd.C_below HC4.out hb); have hx5 := blk_below HX4.out hb; have HB5 := Aside0.mk (below_then HB4.out HB4.out.size hb); have hc05 : w5.cell? ⟨w1.heap.size, 0, none⟩ = some (.int .i64 r1) := (blk_cell hx5 0).trans rfl; have hc15 : w5.cell? ⟨w1.heap.size, 1, none⟩ = some (.int .i32 r2) := (blk_cell hx5 1).trans rfl; have HX5 := Aside0.mk hx5; clear hx5; have hq1 := HCV.out w5 HB5.out; have hq2 := Kd.C_string (P := Try.prog) (c := c2) Try.underlying22 Try.underlying5 Try.underlying9 HC5.out; rw [HS2.out] at hq2; clear hb))
    all_goals go_ret
    all_goals exact ⟨rfl, HB5.out⟩
theorem own_KeyOf : ownKnob Try.prog.godebug = none := by kernel_rfl
theorem laidOut_KeyOf : laidOutB Try.prog = true := by kernel_rfl
set_option maxRecDepth 100000 in
theorem lifted_KeyOf (os : Os) (started : os.Started) (H : Type) (enc : TypeId × Value → H) :
    ReturnsInHanded {} Try.checked os 12 .any (Rows.keyOfSpec.pre6 enc Try.prog Try.f12 Rows.keyOfRow.domain false) (Rows.keyOfSpec.post enc Try.prog Try.f12 false true false false) := by
  refine returnsInHanded_of_change (C := Try.checked) own_KeyOf started (by kernel_rfl) Try.func12
    (ChangeSpec.witness6 (enc := enc) (C := Try.checked) false ⟨#[], #[.slice none 0 0], []⟩ 8 (by kernel_rfl) (by kernel_rfl) (by kernel_rfl) (by kernel_rfl)) ?_
  intro W base args ds gs before hval0 hW hcnd _
  have hval : ∀ (j : Nat) t v, Try.f12.params[j]? = some t → args[j]? = some v → Value.okWide Try.prog W .any base t v := hval0
  have hW' := hW
  obtain ⟨p, q, hA0, hV, rfl, hfz, hnd⟩ := hW
  have hA : DataW.TrodAll enc Try.prog W 0 (fun _ => true) true Try.f12.params.toList args.toList ds p := hA0
  rw [Try.params12] at hA hval
  obtain ⟨v0, vs0, d0, ds0, p0, q0, hargs, rfl, rfl, h0, r0⟩ := trodAll_cons hA
  obtain ⟨rfl, rfl, rfl⟩ := trodAll_nil r0
  obtain rfl : args = #[v0] := by cases args; simp_all
  obtain ⟨rfl, rfl⟩ := trodVars_none hV
  obtain ⟨a0, len0, cap0, rfl⟩ := okWide_slice Try.underlying22 (hval 0 22 v0 rfl rfl)
  have k0 := h0
  have lt0 : ∀ x ∈ p0, x.block < W.heap.size := by obtain ⟨m, hm⟩ := k0; exact DataW.trod_lt m _ _ _ hm
  obtain ⟨l0, rfl, hC0, hc0, hq0⟩ := open_sl (Opn.slice (d := Kd.int .u8) Try.underlying22 (by kernel_rfl) (Opn.int Try.underlying5)) h0
  refine (walk_KeyOf a0 cap0 l0 W hC0 hc0 hq0).mono fun e W' ⟨he, bel⟩ => ?_
  subst he
  exact ⟨_, rfl, _, _, _, [], _, [], hW', trodAll_mk1 (shut_bool Try.underlying4 _), (trodAll_cons_mk (Below.trod laidOut_KeyOf (by kernel_rfl) (of_decide_eq_true (by kernel_rfl)) k0 bel lt0) trodAll_mk0), rfl, bel.frame _, fun h => by cases h⟩
/-- The row. -/
theorem KeyOf_holds : Rows.KeyOfSaid :=
  OpenClaim.holds_of_wide 12 Try.f12 rfl rfl rfl rfl rfl rfl rfl ⟨rfl, rfl, rfl, rfl, rfl⟩ rfl rfl rfl rfl rfl (by kernel_rfl) Try.func12 (by kernel_rfl)
    (of_decide_eq_true (by kernel_rfl)) (by unfold Func.isWrapper; first | (rw [if_pos (by decide +kernel)]; kernel_rfl) | (rw [if_neg (by decide +kernel)]; exact ⟨rfl, rfl⟩))
    (fun os started H enc _ => lifted_KeyOf os started H enc)
#print axioms KeyOf_holds
end Go.Proofs.Ytglcopljhanhmaa
