/- KeygramTells: what its proof leads to. No condition. -/
import Derived.Test.YtpephndecdkfhaaPKeygramTellsDqKeygramTells
import Derived.Test.YtpephndecdkfhaaShortqKeygramTells
namespace Go.Proofs.Ytpephndecdkfhaa.PKeygramTells
open Go.RowKit Go.Proofs.YtpephndecdkfhaaW.PrintWords Go.Proofs.YtpephndecdkfhaaW.PrintLast Go.Proofs.YtpephndecdkfhaaW.PrintMore
attribute [local go_sem] min2_int min_two
set_option linter.unusedVariables false
set_option linter.unusedSimpArgs false

set_option maxHeartbeats 8000000 in
set_option maxRecDepth 100000 in
theorem prolepsislaw14_KeygramTells.calls (k : Nat) (a0_0 : Int) (a0_1 : Int) (a0_2 : Int) (a0_3 : Int) (a0_4 : Int) (A0_5 : Option Addr) (c0_5 : Nat) (l0_5 : List (List Int)) (a1_0 : Int) (a1_1 : Int) (a1_2 : Int) (a1_3 : Int) (a1_4 : Int) (A1_5 : Option Addr) (c1_5 : Nat) (l1_5 : List (List Int)) (a2 : Int) (r : Bool) (w : World) (hr0_5 : Kd.C (Kd.slice 5 (Kd.int .u8)) w A0_5 l0_5.length l0_5) (hc0_5 : l0_5.length ≤ c0_5) (hr1_5 : Kd.C (Kd.slice 5 (Kd.int .u8)) w A1_5 l1_5.length l1_5) (hc1_5 : l1_5.length ≤ c1_5) (h : prolepsislaw14_KeygramTells.f k a0_0 a0_1 a0_2 a0_3 a0_4 l0_5 a1_0 a1_1 a1_2 a1_3 a1_4 l1_5 a2 = some r) (hr : r = true) :
    Calls Try.prog 12 #[.agg #[.int .u64 a0_0, .int .u64 a0_1, .int .i64 a0_2, .int .i64 a0_3, .int .u64 a0_4, .slice A0_5 l0_5.length c0_5], .agg #[.int .u64 a1_0, .int .u64 a1_1, .int .i64 a1_2, .int .i64 a1_3, .int .u64 a1_4, .slice A1_5 l1_5.length c1_5], .int .u64 a2] w fun e w' => e = .returned (.bool r) ∧ Below w.heap.size w w' := by
  have HRT := Aside0.mk hr
  clear hr
  have hu66 := Try.underlying66
  have hu71 := Try.underlying71
  have HR0_5 := Aside0.mk hr0_5
  have HC0_5 := Aside0.mk hc0_5
  clear hr0_5 hc0_5
  have HR1_5 := Aside0.mk hr1_5
  have HC1_5 := Aside0.mk hc1_5
  clear hr1_5 hc1_5
  have HB := a0 (Below.refl w.heap.size w)
  have H : ((prolepsislaw14_Cut.f k a0_0 a0_1 a0_2 a0_3 a0_4 l0_5).bind fun bt222 => ((prolepsislaw14_Cut.f k a1_0 a1_1 a1_2 a1_3 a1_4 l1_5).bind fun bt230 => ((prolepsislaw14_Of.f k bt222.1 bt222.2.1 bt222.2.2.1 bt222.2.2.2.1 bt222.2.2.2.2.1 bt222.2.2.2.2.2).bind fun bt238 => ((prolepsisref14_Check.f k bt238.1 bt238.2.1 bt238.2.2.1 bt238.2.2.2.1 bt238.2.2.2.2.1 bt238.2.2.2.2.2).bind fun t247 => ((keygram_Bytes.f bt222.1 bt222.2.1 bt222.2.2.1 bt222.2.2.2.1 bt222.2.2.2.2.1 bt222.2.2.2.2.2).bind fun bt248 => ((keygram_Key.f k bt222.1 bt222.2.1 bt222.2.2.1 bt222.2.2.2.1 bt222.2.2.2.2.1 bt222.2.2.2.2.2 a2).bind fun bt252 => ((prolepsisref14_Key.f k bt238.1 bt238.2.1 bt238.2.2.1 bt238.2.2.2.1 bt238.2.2.2.2.1 bt238.2.2.2.2.2 a2).bind fun bt256 => ((keygram_Check.f k bt222.1 bt222.2.1 bt222.2.2.1 bt222.2.2.2.1 bt222.2.2.2.2.1 bt222.2.2.2.2.2).bind fun t258 => (if t258 = t247 then (if bt248.2 = t247 then ((keygram_Last.f k bt222.1 bt222.2.1 bt222.2.2.1 bt222.2.2.2.1 bt222.2.2.2.2.1 bt222.2.2.2.2.2).bind fun t259 => ((prolepsisref14_Last.f k bt238.1 bt238.2.1 bt238.2.2.1 bt238.2.2.2.1 bt238.2.2.2.2.1 bt238.2.2.2.2.2).bind fun t260 => (if t259 = t260 then (if (strOfNums bt252.1).toList = bt256.1.toList then (if (bt252.2 != bt256.2) = true then (prolepsislaw14_KeygramTells.j0 k t247 bt248.1 true bt222.1 bt222.2.1 bt222.2.2.1 bt222.2.2.2.1 bt222.2.2.2.2.1 bt222.2.2.2.2.2 bt238.1 bt238.2.1 bt238.2.2.1 bt238.2.2.2.1 bt238.2.2.2.2.1 bt238.2.2.2.2.2) else ((keygram_Same.f bt222.1 bt222.2.1 bt222.2.2.1 bt222.2.2.2.1 bt222.2.2.2.2.1 bt222.2.2.2.2.2 bt230.1 bt230.2.1 bt230.2.2.1 bt230.2.2.2.1 bt230.2.2.2.2.1 bt230.2.2.2.2.2).bind fun t261 => ((prolepsislaw14_Of.f k bt230.1 bt230.2.1 bt230.2.2.1 bt230.2.2.2.1 bt230.2.2.2.2.1 bt230.2.2.2.2.2).bind fun bt262 => ((prolepsisref14_Same.f k bt238.1 bt238.2.1 bt238.2.2.1 bt238.2.2.2.1 bt238.2.2.2.2.1 bt238.2.2.2.2.2 bt262.1 bt262.2.1 bt262.2.2.1 bt262.2.2.2.1 bt262.2.2.2.2.1 bt262.2.2.2.2.2).bind fun t270 => (if (t261 != t270) = true then (prolepsislaw14_KeygramTells.j0 k t247 bt248.1 true bt222.1 bt222.2.1 bt222.2.2.1 bt222.2.2.2.1 bt222.2.2.2.2.1 bt222.2.2.2.2.2 bt238.1 bt238.2.1 bt238.2.2.1 bt238.2.2.2.1 bt238.2.2.2.2.1 bt238.2.2.2.2.2) else ((keygram_Same.f bt222.1 bt222.2.1 bt222.2.2.1 bt222.2.2.2.1 bt222.2.2.2.2.1 bt222.2.2.2.2.2 bt222.1 bt222.2.1 bt222.2.2.1 bt222.2.2.2.1 bt222.2.2.2.2.1 bt222.2.2.2.2.2).bind fun t271 => (prolepsislaw14_KeygramTells.j0 k t247 bt248.1 (!t271) bt222.1 bt222.2.1 bt222.2.2.1 bt222.2.2.2.1 bt222.2.2.2.2.1 bt222.2.2.2.2.2 bt238.1 bt238.2.1 bt238.2.2.1 bt238.2.2.2.1 bt238.2.2.2.2.1 bt238.2.2.2.2.2))))))) else (prolepsislaw14_KeygramTells.j0 k t247 bt248.1 true bt222.1 bt222.2.1 bt222.2.2.1 bt222.2.2.2.1 bt222.2.2.2.2.1 bt222.2.2.2.2.2 bt238.1 bt238.2.1 bt238.2.2.1 bt238.2.2.2.1 bt238.2.2.2.2.1 bt238.2.2.2.2.2)) else (prolepsislaw14_KeygramTells.j0 k t247 bt248.1 true bt222.1 bt222.2.1 bt222.2.2.1 bt222.2.2.2.1 bt222.2.2.2.2.1 bt222.2.2.2.2.2 bt238.1 bt238.2.1 bt238.2.2.1 bt238.2.2.2.1 bt238.2.2.2.2.1 bt238.2.2.2.2.2)))) else (prolepsislaw14_KeygramTells.j0 k t247 bt248.1 true bt222.1 bt222.2.1 bt222.2.2.1 bt222.2.2.2.1 bt222.2.2.2.2.1 bt222.2.2.2.2.2 bt238.1 bt238.2.1 bt238.2.2.1 bt238.2.2.2.1 bt238.2.2.2.2.1 bt238.2.2.2.2.2)) else (prolepsislaw14_KeygramTells.j0 k t247 bt248.1 true bt222.1 bt222.2.1 bt222.2.2.1 bt222.2.2.2.1 bt222.2.2.2.2.1 bt222.2.2.2.2.2 bt238.1 bt238.2.1 bt238.2.2.1 bt238.2.2.2.1 bt238.2.2.2.2.1 bt238.2.2.2.2.2)))))))))) = some r := h
  clear h
  replace H := Option.bind_eq_some_iff.mp H
  obtain ⟨⟨t222, t223, t224, t225, t226, t227⟩, A40, H⟩ := H
  try dsimp only at H
  have A4 := Aside0.mk A40
  clear A40
  replace H := Option.bind_eq_some_iff.mp H
  obtain ⟨⟨t230, t231, t232, t233, t234, t235⟩, A50, H⟩ := H
  try dsimp only at H
  have A5 := Aside0.mk A50
  clear A50
  replace H := Option.bind_eq_some_iff.mp H
  obtain ⟨⟨t238, t239, t240, t241, t242, t243⟩, A60, H⟩ := H
  try dsimp only at H
  have A6 := Aside0.mk A60
  clear A60
  replace H := Option.bind_eq_some_iff.mp H
  obtain ⟨t247, A70, H⟩ := H
  try dsimp only at H
  have A7 := Aside0.mk A70
  clear A70
  replace H := Option.bind_eq_some_iff.mp H
  obtain ⟨⟨t248, t251⟩, A80, H⟩ := H
  try dsimp only at H
  have A8 := Aside0.mk A80
  clear A80
  replace H := Option.bind_eq_some_iff.mp H
  obtain ⟨⟨t252, t255⟩, A90, H⟩ := H
  try dsimp only at H
  have A9 := Aside0.mk A90
  clear A90
  replace H := Option.bind_eq_some_iff.mp H
  obtain ⟨⟨t256, t257⟩, A100, H⟩ := H
  try dsimp only at H
  have A10 := Aside0.mk A100
  clear A100
  have HC11 := Aside0.mk H
  clear H
  go_enter Try.func12, Try.ntmps12
  try go_wp2_with (first | ((with_reducible refine gate_dst (N := 3) rfl ?_); (try (refine gate_guard (by rfl) ?_; dsimp only)); refine box_event ?hg (N := 3) ?hd (cs := #[.int .u64 a0_0, .int .u64 a0_1, .int .i64 a0_2, .int .i64 a0_3, .int .u64 a0_4, .slice A0_5 l0_5.length c0_5]) (t := 66) ?hr ?_; (case hd => rfl); (case hg => rfl); (case hr => first | (go_simp; done) | (go_simp; rfl)); intro gb220 hg w12 hbox hb; have n0_ := a0 (below_step (by repeat (first | (with_reducible first | exact HB.out | apply lA | apply lN | apply lD) | exact HB.out)) hb); have n1_ := a0 (hbox); have n2_ := a0 ((by rw [hg]; exact (below_size (by repeat (first | (with_reducible first | exact HB.out | apply lA | apply lN | apply lD) | exact HB.out))) : w.heap.size ≤ gb220)); have n3_ := a0 ((by rw [hg]; exact (below_size (by repeat (first | (with_reducible first | exact HB.out | apply lA | apply lN | apply lD) | exact HB.out))) : w.heap.size ≤ gb220)); clear HB; have HB := n0_; have BK220 := n1_; have GW220 := n2_; have GE220 := n3_; clear n0_ n1_ n2_ n3_; clear hb hbox hg) | ((with_reducible refine gate_dst (N := 4) rfl ?_); (try (refine gate_guard (by rfl) ?_; dsimp only)); refine box_event ?hg (N := 4) ?hd (cs := #[.int .u64 a1_0, .int .u64 a1_1, .int .i64 a1_2, .int .i64 a1_3, .int .u64 a1_4, .slice A1_5 l1_5.length c1_5]) (t := 66) ?hr ?_; (case hd => rfl); (case hg => rfl); (case hr => first | (go_simp; done) | (go_simp; rfl)); intro gb221 hg w13 hbox hb; have n0_ := a0 (blk_below (g := gb220) (o := .cells #[.int .u64 a0_0, .int .u64 a0_1, .int .i64 a0_2, .int .i64 a0_3, .int .u64 a0_4, .slice A0_5 l0_5.length c0_5] 66 (0, 0)) (by (with_reducible repeat (first | apply bN | apply bD | apply bA)); exact BK220.out) hb); have n1_ := a0 (below_step (by repeat (first | (with_reducible first | exact HB.out | apply lA | apply lN | apply lD | refine below_set ?_ GE220.out) | exact HB.out)) hb); have n2_ := a0 (hbox); have n3_ := a0 ((by rw [hg]; exact (below_size (by repeat (first | (with_reducible first | exact HB.out | apply lA | apply lN | apply lD | refine below_set ?_ GE220.out) | exact HB.out))) : w.heap.size ≤ gb221)); have n4_ := a0 ((by rw [hg]; exact (below_size (by repeat (first | (with_reducible first | exact HB.out | apply lA | apply lN | apply lD | refine below_set ?_ GE220.out) | exact HB.out))) : w.heap.size ≤ gb221)); have n5_ := a0 ((by rw [hg]; exact Nat.ne_of_lt (blk_lt (g := gb220) (o := .cells #[.int .u64 a0_0, .int .u64 a0_1, .int .i64 a0_2, .int .i64 a0_3, .int .u64 a0_4, .slice A0_5 l0_5.length c0_5] 66 (0, 0)) (by (with_reducible repeat (first | apply bN | apply bD | apply bA)); exact BK220.out)) : gb220 ≠ gb221)); have n6_ := a0 ((by rw [hg]; exact Nat.ne_of_gt (blk_lt (g := gb220) (o := .cells #[.int .u64 a0_0, .int .u64 a0_1, .int .i64 a0_2, .int .i64 a0_3, .int .u64 a0_4, .slice A0_5 l0_5.length c0_5] 66 (0, 0)) (by (with_reducible repeat (first | apply bN | apply bD | apply bA)); exact BK220.out)) : gb221 ≠ gb220)); clear BK220; clear HB; have BK220 := n0_; have HB := n1_; have BK221 := n2_; have GW221 := n3_; have GE221 := n4_; have NB220_221 := n5_; have NB221_220 := n6_; clear n0_ n1_ n2_ n3_ n4_ n5_ n6_; clear hb hbox hg))
  have n0_ := a0 (blk_drew BK220.out)
  have n1_ := a0 (blk_drew BK221.out)
  have n2_ := a0 (below_drew1 HB.out)
  clear BK220
  clear BK221
  clear HB
  have BK220 := n0_
  have BK221 := n1_
  have HB := n2_
  clear n0_ n1_ n2_
  refine start_ (n := 6) (S := fun w' => w'.cell? ⟨gb220, 0, none⟩ = some (.int .u64 a0_0) ∧ w'.cell? ⟨gb220, 1, none⟩ = some (.int .u64 a0_1) ∧ w'.cell? ⟨gb220, 2, none⟩ = some (.int .i64 a0_2) ∧ w'.cell? ⟨gb220, 3, none⟩ = some (.int .i64 a0_3) ∧ w'.cell? ⟨gb220, 4, none⟩ = some (.int .u64 a0_4) ∧ w'.cell? ⟨gb220, 5, none⟩ = some (.slice A0_5 l0_5.length c0_5) ∧ w'.cell? ⟨gb221, 0, none⟩ = some (.int .u64 a1_0) ∧ w'.cell? ⟨gb221, 1, none⟩ = some (.int .u64 a1_1) ∧ w'.cell? ⟨gb221, 2, none⟩ = some (.int .i64 a1_2) ∧ w'.cell? ⟨gb221, 3, none⟩ = some (.int .i64 a1_3) ∧ w'.cell? ⟨gb221, 4, none⟩ = some (.int .u64 a1_4) ∧ w'.cell? ⟨gb221, 5, none⟩ = some (.slice A1_5 l1_5.length c1_5)) (ds := [4, 5]) (tf 0 6) (by kernel_rfl) rfl rfl ⟨(blk_cell BK220.out 0).trans rfl, (blk_cell BK220.out 1).trans rfl, (blk_cell BK220.out 2).trans rfl, (blk_cell BK220.out 3).trans rfl, (blk_cell BK220.out 4).trans rfl, (blk_cell BK220.out 5).trans rfl, (blk_cell BK221.out 0).trans rfl, (blk_cell BK221.out 1).trans rfl, (blk_cell BK221.out 2).trans rfl, (blk_cell BK221.out 3).trans rfl, (blk_cell BK221.out 4).trans rfl, (blk_cell BK221.out 5).trans rfl⟩ (fun hHeld => ?_)
  generalize w13.drew = w14 at BK220 BK221 HB hHeld ⊢
  refine take_ (i := 0) (N := some 17) (v := ?_) (a' := ?_) (tf 1 5) rfl rfl (by kernel_rfl) (fun _ _ _ h => h) (Or.inl ⟨by rfl, ?_⟩) hHeld ?_ ?_
  rotate_left
  · rintro w' ⟨s0, s1, s2, s3, s4, s5, s6, s7, s8, s9, s10, s11⟩
    go_simp
    with_reducible rfl
  rotate_left
  · simp only [Act.put, List.setIfInBounds_toArray, List.set_cons_zero, List.set_cons_succ, i64_w, i32_w]
    rfl
  refine take_ (i := 2) (N := some 19) (v := ?_) (a' := ?_) #[true, false, true, false, false, false] rfl rfl (by kernel_rfl) (fun _ _ _ h => h) (Or.inl ⟨by rfl, ?_⟩) hHeld ?_ ?_
  rotate_left
  · rintro w' ⟨s0, s1, s2, s3, s4, s5, s6, s7, s8, s9, s10, s11⟩
    go_simp
    with_reducible rfl
  rotate_left
  · simp only [Act.put, List.setIfInBounds_toArray, List.set_cons_zero, List.set_cons_succ, i64_w, i32_w]
    rfl
  refine one_ (i := 1) (N := some 18) (tf 3 3) rfl rfl (by kernel_rfl) (by decide) (fun K hK => ?_)
  refine goes_ Try.func49 (by kernel_rfl) rfl #[.agg #[.int .u64 a0_0, .int .u64 a0_1, .int .i64 a0_2, .int .i64 a0_3, .int .u64 a0_4, .slice A0_5 l0_5.length c0_5]] (by rfl) rfl rfl (by (try simp only [List.map_toArray, List.map_cons, List.map_nil]); first | done | rfl | (simp only [List.length_drop, List.length_take]; rfl)) ?_
  with_reducible refine (prolepsislaw14_Cut.calls k a0_0 a0_1 a0_2 a0_3 a0_4 (fun k_ => k_ < w.heap.size) _ _ l0_5 t222 t223 t224 t225 t226 t227 _ ?side1 A4.out).mono ?_
  (case side1 => exact Kd.V_mk HC0_5.out (Kd.F_below (Kd.C_F (Kd.heap_slice 5 (Kd.heap_int .u8)) HR0_5.out) (by repeat (first | (with_reducible first | exact HB.out | apply lA | apply lN | apply lD | refine below_set ?_ GE220.out | refine below_set ?_ GE221.out) | exact HB.out))))
  rintro e w15 ⟨v228, rfl, ho0, hb⟩
  refine ⟨_, rfl, ?_⟩
  have n0_ := a0 (Kd.N_lower (Kd.N_mono (ok' := fun k_ => k_ ≠ gb220 ∧ k_ ≠ gb221) ho0 (fun k_ hk_ => ⟨Or.elim hk_ (fun hs_ => fun e_ => Nat.not_le.2 hs_ (by rw [e_]; exact GW220.out)) (fun hn_ => (Kd.freshB (g := gb220) (o := .cells #[.int .u64 a0_0, .int .u64 a0_1, .int .i64 a0_2, .int .i64 a0_3, .int .u64 a0_4, .slice A0_5 l0_5.length c0_5] 66 (0, 0)) (by (with_reducible repeat (first | apply bN | apply bD | apply bA)); exact BK220.out) k_ hn_)), Or.elim hk_ (fun hs_ => fun e_ => Nat.not_le.2 hs_ (by rw [e_]; exact GW221.out)) (fun hn_ => (Kd.freshB (g := gb221) (o := .cells #[.int .u64 a1_0, .int .u64 a1_1, .int .i64 a1_2, .int .i64 a1_3, .int .u64 a1_4, .slice A1_5 l1_5.length c1_5] 66 (0, 0)) (by (with_reducible repeat (first | apply bN | apply bD | apply bA)); exact BK221.out) k_ hn_))⟩)) (below_size (by repeat (first | (with_reducible first | exact HB.out | apply lA | apply lN | apply lD | refine below_set ?_ GE220.out | refine below_set ?_ GE221.out) | exact HB.out))))
  have n1_ := a0 (blk_below (g := gb220) (o := .cells #[.int .u64 a0_0, .int .u64 a0_1, .int .i64 a0_2, .int .i64 a0_3, .int .u64 a0_4, .slice A0_5 l0_5.length c0_5] 66 (0, 0)) (by (with_reducible repeat (first | apply bN | apply bD | apply bA)); exact BK220.out) hb)
  have n2_ := a0 (blk_below (g := gb221) (o := .cells #[.int .u64 a1_0, .int .u64 a1_1, .int .i64 a1_2, .int .i64 a1_3, .int .u64 a1_4, .slice A1_5 l1_5.length c1_5] 66 (0, 0)) (by (with_reducible repeat (first | apply bN | apply bD | apply bA)); exact BK221.out) hb)
  have n3_ := a0 (below_step (by repeat (first | (with_reducible first | exact HB.out | apply lA | apply lN | apply lD | refine below_set ?_ GE220.out | refine below_set ?_ GE221.out) | exact HB.out)) hb)
  clear BK220
  clear BK221
  clear HB
  have HO229 := n0_
  have BK220 := n1_
  have BK221 := n2_
  have HB := n3_
  clear n0_ n1_ n2_ n3_
  (try clear hb)
  (try clear hb2)
  (try clear hk)
  (try clear hi)
  (try clear ho0)
  refine hK.out _ _ ⟨(blk_cell BK220.out 0).trans rfl, (blk_cell BK220.out 1).trans rfl, (blk_cell BK220.out 2).trans rfl, (blk_cell BK220.out 3).trans rfl, (blk_cell BK220.out 4).trans rfl, (blk_cell BK220.out 5).trans rfl, (blk_cell BK221.out 0).trans rfl, (blk_cell BK221.out 1).trans rfl, (blk_cell BK221.out 2).trans rfl, (blk_cell BK221.out 3).trans rfl, (blk_cell BK221.out 4).trans rfl, (blk_cell BK221.out 5).trans rfl⟩ (fun hHeld => ?_)
  clear hK K
  refine norm_ (a' := ?_) ?_ ?_
  rotate_left
  · show Act.put _ (some 18) _ = _
    simp only [Act.put, List.setIfInBounds_toArray, List.set_cons_zero, List.set_cons_succ, i64_w, i32_w]
    rfl
  refine one_ (i := 3) (N := some 20) (tf 4 2) rfl rfl (by kernel_rfl) (by decide) (fun K hK => ?_)
  refine goes_ Try.func49 (by kernel_rfl) rfl #[.agg #[.int .u64 a1_0, .int .u64 a1_1, .int .i64 a1_2, .int .i64 a1_3, .int .u64 a1_4, .slice A1_5 l1_5.length c1_5]] (by rfl) rfl rfl (by (try simp only [List.map_toArray, List.map_cons, List.map_nil]); first | done | rfl | (simp only [List.length_drop, List.length_take]; rfl)) ?_
  with_reducible refine (prolepsislaw14_Cut.calls k a1_0 a1_1 a1_2 a1_3 a1_4 (fun k_ => k_ < w.heap.size) _ _ l1_5 t230 t231 t232 t233 t234 t235 _ ?side1 A5.out).mono ?_
  (case side1 => exact Kd.V_mk HC1_5.out (Kd.F_below (Kd.C_F (Kd.heap_slice 5 (Kd.heap_int .u8)) HR1_5.out) (by repeat (first | (with_reducible first | exact HB.out | apply lA | apply lN | apply lD | refine below_set ?_ GE220.out | refine below_set ?_ GE221.out) | exact HB.out))))
  rintro e w16 ⟨v236, rfl, ho0, hb⟩
  refine ⟨_, rfl, ?_⟩
  have n0_ := a0 (Kd.N_elder' (by (with_reducible repeat (first | apply Kd.N_alloc | apply Kd.N_drewN | apply Kd.N_drew)); exact HO229.out) (Kd.N_base ho0) hb)
  have n1_ := a0 (Kd.N_lower (Kd.N_mono (ok' := fun k_ => some k_ ≠ (v228 : Value).ownBlock ∧ k_ ≠ gb220 ∧ k_ ≠ gb221) ho0 (fun k_ hk_ => ⟨Or.elim hk_ (fun hs_ => fun e_ => Nat.not_le.2 hs_ (Kd.N_base HO229.out k_ e_.symm)) (fun hn_ => (Kd.fresh' (Kd.N_lt (by (with_reducible repeat (first | apply Kd.N_alloc | apply Kd.N_drewN | apply Kd.N_drew)); exact HO229.out)) k_ hn_)), Or.elim hk_ (fun hs_ => fun e_ => Nat.not_le.2 hs_ (by rw [e_]; exact GW220.out)) (fun hn_ => (Kd.freshB (g := gb220) (o := .cells #[.int .u64 a0_0, .int .u64 a0_1, .int .i64 a0_2, .int .i64 a0_3, .int .u64 a0_4, .slice A0_5 l0_5.length c0_5] 66 (0, 0)) (by (with_reducible repeat (first | apply bN | apply bD | apply bA)); exact BK220.out) k_ hn_)), Or.elim hk_ (fun hs_ => fun e_ => Nat.not_le.2 hs_ (by rw [e_]; exact GW221.out)) (fun hn_ => (Kd.freshB (g := gb221) (o := .cells #[.int .u64 a1_0, .int .u64 a1_1, .int .i64 a1_2, .int .i64 a1_3, .int .u64 a1_4, .slice A1_5 l1_5.length c1_5] 66 (0, 0)) (by (with_reducible repeat (first | apply bN | apply bD | apply bA)); exact BK221.out) k_ hn_))⟩)) (below_size (by repeat (first | (with_reducible first | exact HB.out | apply lA | apply lN | apply lD | refine below_set ?_ GE220.out | refine below_set ?_ GE221.out) | exact HB.out))))
  have n2_ := a0 (blk_below (g := gb220) (o := .cells #[.int .u64 a0_0, .int .u64 a0_1, .int .i64 a0_2, .int .i64 a0_3, .int .u64 a0_4, .slice A0_5 l0_5.length c0_5] 66 (0, 0)) (by (with_reducible repeat (first | apply bN | apply bD | apply bA)); exact BK220.out) hb)
  have n3_ := a0 (blk_below (g := gb221) (o := .cells #[.int .u64 a1_0, .int .u64 a1_1, .int .i64 a1_2, .int .i64 a1_3, .int .u64 a1_4, .slice A1_5 l1_5.length c1_5] 66 (0, 0)) (by (with_reducible repeat (first | apply bN | apply bD | apply bA)); exact BK221.out) hb)
  have n4_ := a0 (below_step (by repeat (first | (with_reducible first | exact HB.out | apply lA | apply lN | apply lD | refine below_set ?_ GE220.out | refine below_set ?_ GE221.out) | exact HB.out)) hb)
  clear HO229
  clear BK220
  clear BK221
  clear HB
  have HO229 := n0_
  have HO237 := n1_
  have BK220 := n2_
  have BK221 := n3_
  have HB := n4_
  clear n0_ n1_ n2_ n3_ n4_
  (try clear hb)
  (try clear hb2)
  (try clear hk)
  (try clear hi)
  (try clear ho0)
  obtain ⟨Ao22, co22, eo22⟩ := Kd.N_slice HO229.out
  (first | subst eo22 | (injection eo22 with f1_ f2_ f3_; have f4_ := f1_.symm; have f5_ := f3_.symm; clear f1_ f2_ f3_; subst f4_; subst f5_))
  obtain ⟨Ao29, co29, eo29⟩ := Kd.N_slice HO237.out
  (first | subst eo29 | (injection eo29 with f1_ f2_ f3_; have f4_ := f1_.symm; have f5_ := f3_.symm; clear f1_ f2_ f3_; subst f4_; subst f5_))
  refine hK.out _ _ ⟨(blk_cell BK220.out 0).trans rfl, (blk_cell BK220.out 1).trans rfl, (blk_cell BK220.out 2).trans rfl, (blk_cell BK220.out 3).trans rfl, (blk_cell BK220.out 4).trans rfl, (blk_cell BK220.out 5).trans rfl, (blk_cell BK221.out 0).trans rfl, (blk_cell BK221.out 1).trans rfl, (blk_cell BK221.out 2).trans rfl, (blk_cell BK221.out 3).trans rfl, (blk_cell BK221.out 4).trans rfl, (blk_cell BK221.out 5).trans rfl⟩ (fun hHeld => ?_)
  clear hK K
  refine norm_ (a' := ?_) ?_ ?_
  rotate_left
  · show Act.put _ (some 20) _ = _
    simp only [Act.put, List.setIfInBounds_toArray, List.set_cons_zero, List.set_cons_succ, i64_w, i32_w]
    rfl
  refine last_ (i := 4) (N := none) (tf 5 1) rfl rfl (by kernel_rfl) (by decide) (fun K hK => ?_)
  have hs17 : w16.cell? ⟨gb220, 0, none⟩ = some (.int .u64 a0_0) := (blk_cell BK220.out 0).trans rfl
  have hfs17 := blk_frozen BK220.out 0
  have hns17_1 := NB221_220.out
  have hms17_1 := NB220_221.out
  have hs18 : w16.cell? ⟨gb220, 1, none⟩ = some (.int .u64 a0_1) := (blk_cell BK220.out 1).trans rfl
  have hfs18 := blk_frozen BK220.out 1
  have hns18_1 := NB221_220.out
  have hms18_1 := NB220_221.out
  have hs19 : w16.cell? ⟨gb220, 2, none⟩ = some (.int .i64 a0_2) := (blk_cell BK220.out 2).trans rfl
  have hfs19 := blk_frozen BK220.out 2
  have hns19_1 := NB221_220.out
  have hms19_1 := NB220_221.out
  have hs20 : w16.cell? ⟨gb220, 3, none⟩ = some (.int .i64 a0_3) := (blk_cell BK220.out 3).trans rfl
  have hfs20 := blk_frozen BK220.out 3
  have hns20_1 := NB221_220.out
  have hms20_1 := NB220_221.out
  have hs21 : w16.cell? ⟨gb220, 4, none⟩ = some (.int .u64 a0_4) := (blk_cell BK220.out 4).trans rfl
  have hfs21 := blk_frozen BK220.out 4
  have hns21_1 := NB221_220.out
  have hms21_1 := NB220_221.out
  have hs23 : w16.cell? ⟨gb220, 5, none⟩ = some (.slice A0_5 l0_5.length c0_5) := (blk_cell BK220.out 5).trans rfl
  have hfs23 := blk_frozen BK220.out 5
  have hns23_1 := NB221_220.out
  have hms23_1 := NB220_221.out
  refine skip_ (w1 := ?_) (by rfl) rfl ?_ ?_
  rotate_left
  · go_simp
    rfl
  refine hK.out _ _ ?_
  clear hK K
  refine last_ (i := 5) (N := none) (tf 6 0) rfl rfl (by kernel_rfl) (by decide) (fun K hK => ?_)
  have hs24 : w16.cell? ⟨gb221, 0, none⟩ = some (.int .u64 a1_0) := (blk_cell BK221.out 0).trans rfl
  have hfs24 := blk_frozen BK221.out 0
  have hns24_0 := NB220_221.out
  have hms24_0 := NB221_220.out
  have hs25 : w16.cell? ⟨gb221, 1, none⟩ = some (.int .u64 a1_1) := (blk_cell BK221.out 1).trans rfl
  have hfs25 := blk_frozen BK221.out 1
  have hns25_0 := NB220_221.out
  have hms25_0 := NB221_220.out
  have hs26 : w16.cell? ⟨gb221, 2, none⟩ = some (.int .i64 a1_2) := (blk_cell BK221.out 2).trans rfl
  have hfs26 := blk_frozen BK221.out 2
  have hns26_0 := NB220_221.out
  have hms26_0 := NB221_220.out
  have hs27 : w16.cell? ⟨gb221, 3, none⟩ = some (.int .i64 a1_3) := (blk_cell BK221.out 3).trans rfl
  have hfs27 := blk_frozen BK221.out 3
  have hns27_0 := NB220_221.out
  have hms27_0 := NB221_220.out
  have hs28 : w16.cell? ⟨gb221, 4, none⟩ = some (.int .u64 a1_4) := (blk_cell BK221.out 4).trans rfl
  have hfs28 := blk_frozen BK221.out 4
  have hns28_0 := NB220_221.out
  have hms28_0 := NB221_220.out
  have hs30 : w16.cell? ⟨gb221, 5, none⟩ = some (.slice A1_5 l1_5.length c1_5) := (blk_cell BK221.out 5).trans rfl
  have hfs30 := blk_frozen BK221.out 5
  have hns30_0 := NB220_221.out
  have hms30_0 := NB221_220.out
  refine skip_ (w1 := ?_) (by rfl) rfl ?_ ?_
  rotate_left
  · go_simp
    rfl
  refine hK.out _ _ ?_
  clear hK K
  refine done_ (by kernel_rfl) ?_
  have hnb31 := NB220_221.out
  have hnc31 := NB221_220.out
  obtain ⟨hcz32_0, hcz32_1, hcz32_2, hcz32_3, hcz32_4, hcz32_5, hfz32_0, hfz32_1, hfz32_2, hfz32_3, hfz32_4, hfz32_5⟩ := cel6 BK220.out
  go_upto_region 7 with (first | ((with_reducible refine gate_callee (f := 42) rfl ?_); refine goesL_ (some 22) rfl rfl Try.func42 (by kernel_rfl) rfl #[.agg #[.int .u64 t222, .int .u64 t223, .int .i64 t224, .int .i64 t225, .int .u64 t226, .slice Ao22 t227.length co22]] rfl (by (try simp only [List.map_toArray, List.map_cons, List.map_nil]); first | done | rfl | (simp only [List.length_drop, List.length_take]; rfl)) ?_; (with_reducible refine (prolepsislaw14_Of.calls k t222 t223 t224 t225 t226 _ _ t227 t238 t239 t240 t241 t242 t243 _ ?side1 ?side2 A6.out).mono ?_); (case side1 => refine (Kd.N_reads' (e := 27) (base := w.heap.size) (ok := fun k_ => ((k_ ≠ gb220 ∧ k_ ≠ gb221) ∧ some k_ ≠ (.slice Ao29 t235.length co29 : Value).ownBlock)) (n := t227.length) (c := co22) ?_).2.2; exact (by (with_reducible repeat (first | apply Kd.N_alloc | apply Kd.N_drewN | apply Kd.N_drew)); exact (Kd.N_mono (Kd.N_mono (Kd.N_far (p := ⟨gb221, 5, none⟩) (Kd.N_far (p := ⟨gb221, 4, none⟩) (Kd.N_far (p := ⟨gb221, 3, none⟩) (Kd.N_far (p := ⟨gb221, 2, none⟩) (Kd.N_far (p := ⟨gb221, 1, none⟩) (Kd.N_far (p := ⟨gb221, 0, none⟩) (Kd.N_far (p := ⟨gb220, 5, none⟩) (Kd.N_far (p := ⟨gb220, 4, none⟩) (Kd.N_far (p := ⟨gb220, 3, none⟩) (Kd.N_far (p := ⟨gb220, 2, none⟩) (Kd.N_far (p := ⟨gb220, 1, none⟩) (Kd.N_far (p := ⟨gb220, 0, none⟩) (Kd.N_mono (Kd.N_mono HO229.out (fun k_ hk => (⟨hk, hk.1.1⟩ : _ ∧ k_ ≠ gb220))) (fun k_ hk => (⟨hk, hk.1.1.2⟩ : _ ∧ k_ ≠ gb221))) (fun _ hk => hk.1.2) (.int .u64 t222)) (fun _ hk => hk.1.2) (.int .u64 t223)) (fun _ hk => hk.1.2) (.int .i64 t224)) (fun _ hk => hk.1.2) (.int .i64 t225)) (fun _ hk => hk.1.2) (.int .u64 t226)) (fun _ hk => hk.1.2) (.slice Ao22 t227.length co22)) (fun _ hk => hk.2) (.int .u64 t230)) (fun _ hk => hk.2) (.int .u64 t231)) (fun _ hk => hk.2) (.int .i64 t232)) (fun _ hk => hk.2) (.int .i64 t233)) (fun _ hk => hk.2) (.int .u64 t234)) (fun _ hk => hk.2) (.slice Ao29 t235.length co29)) (fun _ h_ => h_.1)) (fun _ h_ => h_.1)))); (case side2 => exact (Kd.N_reads' HO229.out).2.1); rintro e w33 ⟨v244, rfl, ho0, hb⟩; refine ⟨_, rfl, ?_⟩; have n0_ := a0 (Kd.N_elder' (by (with_reducible repeat (first | apply Kd.N_alloc | apply Kd.N_drewN | apply Kd.N_drew)); exact (Kd.N_mono (Kd.N_mono (Kd.N_far (p := ⟨gb221, 5, none⟩) (Kd.N_far (p := ⟨gb221, 4, none⟩) (Kd.N_far (p := ⟨gb221, 3, none⟩) (Kd.N_far (p := ⟨gb221, 2, none⟩) (Kd.N_far (p := ⟨gb221, 1, none⟩) (Kd.N_far (p := ⟨gb221, 0, none⟩) (Kd.N_far (p := ⟨gb220, 5, none⟩) (Kd.N_far (p := ⟨gb220, 4, none⟩) (Kd.N_far (p := ⟨gb220, 3, none⟩) (Kd.N_far (p := ⟨gb220, 2, none⟩) (Kd.N_far (p := ⟨gb220, 1, none⟩) (Kd.N_far (p := ⟨gb220, 0, none⟩) (Kd.N_mono (Kd.N_mono HO229.out (fun k_ hk => (⟨hk, hk.1.1⟩ : _ ∧ k_ ≠ gb220))) (fun k_ hk => (⟨hk, hk.1.1.2⟩ : _ ∧ k_ ≠ gb221))) (fun _ hk => hk.1.2) (.int .u64 t222)) (fun _ hk => hk.1.2) (.int .u64 t223)) (fun _ hk => hk.1.2) (.int .i64 t224)) (fun _ hk => hk.1.2) (.int .i64 t225)) (fun _ hk => hk.1.2) (.int .u64 t226)) (fun _ hk => hk.1.2) (.slice Ao22 t227.length co22)) (fun _ hk => hk.2) (.int .u64 t230)) (fun _ hk => hk.2) (.int .u64 t231)) (fun _ hk => hk.2) (.int .i64 t232)) (fun _ hk => hk.2) (.int .i64 t233)) (fun _ hk => hk.2) (.int .u64 t234)) (fun _ hk => hk.2) (.slice Ao29 t235.length co29)) (fun _ h_ => h_.1)) (fun _ h_ => h_.1))) (Kd.R_base ho0) hb); have n1_ := a0 (Kd.N_elder' (by (with_reducible repeat (first | apply Kd.N_alloc | apply Kd.N_drewN | apply Kd.N_drew)); exact (Kd.N_mono (Kd.N_mono (Kd.N_far (p := ⟨gb221, 5, none⟩) (Kd.N_far (p := ⟨gb221, 4, none⟩) (Kd.N_far (p := ⟨gb221, 3, none⟩) (Kd.N_far (p := ⟨gb221, 2, none⟩) (Kd.N_far (p := ⟨gb221, 1, none⟩) (Kd.N_far (p := ⟨gb221, 0, none⟩) (Kd.N_far (p := ⟨gb220, 5, none⟩) (Kd.N_far (p := ⟨gb220, 4, none⟩) (Kd.N_far (p := ⟨gb220, 3, none⟩) (Kd.N_far (p := ⟨gb220, 2, none⟩) (Kd.N_far (p := ⟨gb220, 1, none⟩) (Kd.N_far (p := ⟨gb220, 0, none⟩) (Kd.N_mono (Kd.N_mono HO237.out (fun k_ hk => (⟨hk, hk.2.1⟩ : _ ∧ k_ ≠ gb220))) (fun k_ hk => (⟨hk, hk.1.2.2⟩ : _ ∧ k_ ≠ gb221))) (fun _ hk => hk.1.2) (.int .u64 t222)) (fun _ hk => hk.1.2) (.int .u64 t223)) (fun _ hk => hk.1.2) (.int .i64 t224)) (fun _ hk => hk.1.2) (.int .i64 t225)) (fun _ hk => hk.1.2) (.int .u64 t226)) (fun _ hk => hk.1.2) (.slice Ao22 t227.length co22)) (fun _ hk => hk.2) (.int .u64 t230)) (fun _ hk => hk.2) (.int .u64 t231)) (fun _ hk => hk.2) (.int .i64 t232)) (fun _ hk => hk.2) (.int .i64 t233)) (fun _ hk => hk.2) (.int .u64 t234)) (fun _ hk => hk.2) (.slice Ao29 t235.length co29)) (fun _ h_ => h_.1)) (fun _ h_ => h_.1))) (Kd.R_base ho0) hb); have n2_ := a0 (Kd.R_lower ho0 (below_size (by repeat (first | (with_reducible first | exact HB.out | apply lA | apply lN | apply lD | refine below_set ?_ GE220.out | refine below_set ?_ GE221.out) | exact HB.out)))); have n3_ := a0 (blk_below (g := gb220) (o := .cells #[.int .u64 t222, .int .u64 t223, .int .i64 t224, .int .i64 t225, .int .u64 t226, .slice Ao22 t227.length co22] 66 (0, 0)) (by (with_reducible repeat (first | apply bN | apply bD | apply bA)); refine blk_far ?_ NB220_221.out _; refine blk_far ?_ NB220_221.out _; refine blk_far ?_ NB220_221.out _; refine blk_far ?_ NB220_221.out _; refine blk_far ?_ NB220_221.out _; refine blk_far ?_ NB220_221.out _; refine blk_put (cs := #[.int .u64 t222, .int .u64 t223, .int .i64 t224, .int .i64 t225, .int .u64 t226, .slice A0_5 l0_5.length c0_5]) ?_ 5 _ rfl; refine blk_put (cs := #[.int .u64 t222, .int .u64 t223, .int .i64 t224, .int .i64 t225, .int .u64 a0_4, .slice A0_5 l0_5.length c0_5]) ?_ 4 _ rfl; refine blk_put (cs := #[.int .u64 t222, .int .u64 t223, .int .i64 t224, .int .i64 a0_3, .int .u64 a0_4, .slice A0_5 l0_5.length c0_5]) ?_ 3 _ rfl; refine blk_put (cs := #[.int .u64 t222, .int .u64 t223, .int .i64 a0_2, .int .i64 a0_3, .int .u64 a0_4, .slice A0_5 l0_5.length c0_5]) ?_ 2 _ rfl; refine blk_put (cs := #[.int .u64 t222, .int .u64 a0_1, .int .i64 a0_2, .int .i64 a0_3, .int .u64 a0_4, .slice A0_5 l0_5.length c0_5]) ?_ 1 _ rfl; refine blk_put (cs := #[.int .u64 a0_0, .int .u64 a0_1, .int .i64 a0_2, .int .i64 a0_3, .int .u64 a0_4, .slice A0_5 l0_5.length c0_5]) ?_ 0 _ rfl; (with_reducible repeat (first | apply bN | apply bD | apply bA)); exact BK220.out) hb); have n4_ := a0 (blk_below (g := gb221) (o := .cells #[.int .u64 t230, .int .u64 t231, .int .i64 t232, .int .i64 t233, .int .u64 t234, .slice Ao29 t235.length co29] 66 (0, 0)) (by (with_reducible repeat (first | apply bN | apply bD | apply bA)); refine blk_put (cs := #[.int .u64 t230, .int .u64 t231, .int .i64 t232, .int .i64 t233, .int .u64 t234, .slice A1_5 l1_5.length c1_5]) ?_ 5 _ rfl; refine blk_put (cs := #[.int .u64 t230, .int .u64 t231, .int .i64 t232, .int .i64 t233, .int .u64 a1_4, .slice A1_5 l1_5.length c1_5]) ?_ 4 _ rfl; refine blk_put (cs := #[.int .u64 t230, .int .u64 t231, .int .i64 t232, .int .i64 a1_3, .int .u64 a1_4, .slice A1_5 l1_5.length c1_5]) ?_ 3 _ rfl; refine blk_put (cs := #[.int .u64 t230, .int .u64 t231, .int .i64 a1_2, .int .i64 a1_3, .int .u64 a1_4, .slice A1_5 l1_5.length c1_5]) ?_ 2 _ rfl; refine blk_put (cs := #[.int .u64 t230, .int .u64 a1_1, .int .i64 a1_2, .int .i64 a1_3, .int .u64 a1_4, .slice A1_5 l1_5.length c1_5]) ?_ 1 _ rfl; refine blk_put (cs := #[.int .u64 a1_0, .int .u64 a1_1, .int .i64 a1_2, .int .i64 a1_3, .int .u64 a1_4, .slice A1_5 l1_5.length c1_5]) ?_ 0 _ rfl; refine blk_far ?_ NB221_220.out _; refine blk_far ?_ NB221_220.out _; refine blk_far ?_ NB221_220.out _; refine blk_far ?_ NB221_220.out _; refine blk_far ?_ NB221_220.out _; refine blk_far ?_ NB221_220.out _; (with_reducible repeat (first | apply bN | apply bD | apply bA)); exact BK221.out) hb); have n5_ := a0 (below_step (by repeat (first | (with_reducible first | exact HB.out | apply lA | apply lN | apply lD | refine below_set ?_ GE220.out | refine below_set ?_ GE221.out) | exact HB.out)) hb); clear HO229; clear HO237; clear BK220; clear BK221; clear HB; have HO229 := n0_; have HO237 := n1_; have HO245 := n2_; have BK220 := n3_; have BK221 := n4_; have HB := n5_; clear n0_ n1_ n2_ n3_ n4_ n5_; (try clear hb); (try clear hb2); (try clear hk); (try clear hi); (try clear ho0)) | ((with_reducible refine gate_dst (N := 7) rfl ?_); (try (refine gate_guard (by rfl) ?_; dsimp only)); refine box_event ?hg (N := 7) ?hd (cs := #[.int .u64 0, .int .u64 0, .int .i64 0, .int .i64 0, .int .u64 0, .slice none 0 0]) (t := 71) ?hr ?_; (case hd => rfl); (case hg => rfl); (case hr => first | (go_simp; done) | (go_simp; rfl)); intro gb246 hg w34 hbox hb; have n0_ := a0 (Kd.N_below (Kd.N_elderB (by (with_reducible repeat (first | apply Kd.N_alloc | apply Kd.N_drewN | apply Kd.N_drew)); exact HO229.out) gb246 (Nat.le_of_eq hg.symm)) hb); have n1_ := a0 (Kd.N_below (Kd.N_elderB (by (with_reducible repeat (first | apply Kd.N_alloc | apply Kd.N_drewN | apply Kd.N_drew)); exact HO237.out) gb246 (Nat.le_of_eq hg.symm)) hb); have n2_ := a0 (Kd.R_below (by (with_reducible repeat (first | apply rA | apply rN | apply rD)); exact HO245.out) hb); have n3_ := a0 (blk_below (g := gb220) (o := .cells #[.int .u64 t222, .int .u64 t223, .int .i64 t224, .int .i64 t225, .int .u64 t226, .slice Ao22 t227.length co22] 66 (0, 0)) (by (with_reducible repeat (first | apply bN | apply bD | apply bA)); exact BK220.out) hb); have n4_ := a0 (blk_below (g := gb221) (o := .cells #[.int .u64 t230, .int .u64 t231, .int .i64 t232, .int .i64 t233, .int .u64 t234, .slice Ao29 t235.length co29] 66 (0, 0)) (by (with_reducible repeat (first | apply bN | apply bD | apply bA)); exact BK221.out) hb); have n5_ := a0 (below_step (by repeat (first | (with_reducible first | exact HB.out | apply lA | apply lN | apply lD | refine below_set ?_ GE220.out | refine below_set ?_ GE221.out) | exact HB.out)) hb); have n6_ := a0 (hbox); have n7_ := a0 ((by rw [hg]; exact (below_size (by repeat (first | (with_reducible first | exact HB.out | apply lA | apply lN | apply lD | refine below_set ?_ GE220.out | refine below_set ?_ GE221.out) | exact HB.out))) : w.heap.size ≤ gb246)); have n8_ := a0 ((by rw [hg]; exact (below_size (by repeat (first | (with_reducible first | exact HB.out | apply lA | apply lN | apply lD | refine below_set ?_ GE220.out | refine below_set ?_ GE221.out) | exact HB.out))) : w.heap.size ≤ gb246)); have n9_ := a0 ((by rw [hg]; exact Nat.ne_of_lt (blk_lt (g := gb220) (o := .cells #[.int .u64 t222, .int .u64 t223, .int .i64 t224, .int .i64 t225, .int .u64 t226, .slice Ao22 t227.length co22] 66 (0, 0)) (by (with_reducible repeat (first | apply bN | apply bD | apply bA)); exact BK220.out)) : gb220 ≠ gb246)); have n10_ := a0 ((by rw [hg]; exact Nat.ne_of_gt (blk_lt (g := gb220) (o := .cells #[.int .u64 t222, .int .u64 t223, .int .i64 t224, .int .i64 t225, .int .u64 t226, .slice Ao22 t227.length co22] 66 (0, 0)) (by (with_reducible repeat (first | apply bN | apply bD | apply bA)); exact BK220.out)) : gb246 ≠ gb220)); have n11_ := a0 ((by rw [hg]; exact Nat.ne_of_lt (blk_lt (g := gb221) (o := .cells #[.int .u64 t230, .int .u64 t231, .int .i64 t232, .int .i64 t233, .int .u64 t234, .slice Ao29 t235.length co29] 66 (0, 0)) (by (with_reducible repeat (first | apply bN | apply bD | apply bA)); exact BK221.out)) : gb221 ≠ gb246)); have n12_ := a0 ((by rw [hg]; exact Nat.ne_of_gt (blk_lt (g := gb221) (o := .cells #[.int .u64 t230, .int .u64 t231, .int .i64 t232, .int .i64 t233, .int .u64 t234, .slice Ao29 t235.length co29] 66 (0, 0)) (by (with_reducible repeat (first | apply bN | apply bD | apply bA)); exact BK221.out)) : gb246 ≠ gb221)); clear HO229; clear HO237; clear HO245; clear BK220; clear BK221; clear HB; have HO229 := n0_; have HO237 := n1_; have HO245 := n2_; have BK220 := n3_; have BK221 := n4_; have HB := n5_; have BK246 := n6_; have GW246 := n7_; have GE246 := n8_; have NB220_246 := n9_; have NB246_220 := n10_; have NB221_246 := n11_; have NB246_221 := n12_; clear n0_ n1_ n2_ n3_ n4_ n5_ n6_ n7_ n8_ n9_ n10_ n11_ n12_; clear hb hbox hg; have hnb35 := NB246_220.out; have hnc35 := NB220_246.out; have hnb36 := NB246_221.out; have hnc36 := NB221_246.out; obtain ⟨hcz37_0, hcz37_1, hcz37_2, hcz37_3, hcz37_4, hcz37_5, hfz37_0, hfz37_1, hfz37_2, hfz37_3, hfz37_4, hfz37_5⟩ := cel6 BK246.out; obtain ⟨Ao38, co38, eo38⟩ := Kd.R_slice HO245.out; subst eo38) | ((with_reducible refine gate_callee (f := 41) rfl ?_); refine goesL_ (some 24) rfl rfl Try.func41 (by kernel_rfl) rfl #[.agg #[.int .u64 t238, .int .u64 t239, .int .i64 t240, .int .i64 t241, .int .u64 t242, .slice Ao38 t243.length co38]] rfl (by (try simp only [List.map_toArray, List.map_cons, List.map_nil]); first | done | rfl | (simp only [List.length_drop, List.length_take]; rfl)) ?_; (with_reducible refine (prolepsisref14_Check.calls k t238 t239 t240 t241 t242 _ _ t243 t247 _ ?side1 ?side2 A7.out).mono ?_); (case side1 => refine (Kd.R_reads' (e := 9) (base := w.heap.size) (ok := fun k_ => True) (n := t243.length) (c := co38) ?_).2.2; exact (by (with_reducible repeat (first | apply rA | apply rN | apply rD)); exact (Kd.R_mono (Kd.R_far (p := ⟨gb246, 5, none⟩) (Kd.R_far (p := ⟨gb246, 4, none⟩) (Kd.R_far (p := ⟨gb246, 3, none⟩) (Kd.R_far (p := ⟨gb246, 2, none⟩) (Kd.R_far (p := ⟨gb246, 1, none⟩) (Kd.R_far (p := ⟨gb246, 0, none⟩) (Kd.R_types HO245.out BK246.out (by decide)) (fun _ hk => hk.2) (.int .u64 t238)) (fun _ hk => hk.2) (.int .u64 t239)) (fun _ hk => hk.2) (.int .i64 t240)) (fun _ hk => hk.2) (.int .i64 t241)) (fun _ hk => hk.2) (.int .u64 t242)) (fun _ hk => hk.2) (.slice Ao38 t243.length co38)) (fun _ h_ => h_.1)))); (case side2 => exact (Kd.R_reads' HO245.out).2.1); rintro e w39 ⟨rfl, hb⟩; refine ⟨_, rfl, ?_⟩; have n0_ := a0 (Kd.N_below (by (with_reducible repeat (first | apply Kd.N_alloc | apply Kd.N_drewN | apply Kd.N_drew)); exact (Kd.N_mono (Kd.N_far (p := ⟨gb246, 5, none⟩) (Kd.N_far (p := ⟨gb246, 4, none⟩) (Kd.N_far (p := ⟨gb246, 3, none⟩) (Kd.N_far (p := ⟨gb246, 2, none⟩) (Kd.N_far (p := ⟨gb246, 1, none⟩) (Kd.N_far (p := ⟨gb246, 0, none⟩) (Kd.N_mono HO229.out (fun k_ hk => (⟨hk, hk.2⟩ : _ ∧ k_ ≠ gb246))) (fun _ hk => hk.2) (.int .u64 t238)) (fun _ hk => hk.2) (.int .u64 t239)) (fun _ hk => hk.2) (.int .i64 t240)) (fun _ hk => hk.2) (.int .i64 t241)) (fun _ hk => hk.2) (.int .u64 t242)) (fun _ hk => hk.2) (.slice Ao38 t243.length co38)) (fun _ h_ => h_.1))) hb); have n1_ := a0 (Kd.N_below (by (with_reducible repeat (first | apply Kd.N_alloc | apply Kd.N_drewN | apply Kd.N_drew)); exact (Kd.N_mono (Kd.N_far (p := ⟨gb246, 5, none⟩) (Kd.N_far (p := ⟨gb246, 4, none⟩) (Kd.N_far (p := ⟨gb246, 3, none⟩) (Kd.N_far (p := ⟨gb246, 2, none⟩) (Kd.N_far (p := ⟨gb246, 1, none⟩) (Kd.N_far (p := ⟨gb246, 0, none⟩) (Kd.N_mono HO237.out (fun k_ hk => (⟨hk, hk.2⟩ : _ ∧ k_ ≠ gb246))) (fun _ hk => hk.2) (.int .u64 t238)) (fun _ hk => hk.2) (.int .u64 t239)) (fun _ hk => hk.2) (.int .i64 t240)) (fun _ hk => hk.2) (.int .i64 t241)) (fun _ hk => hk.2) (.int .u64 t242)) (fun _ hk => hk.2) (.slice Ao38 t243.length co38)) (fun _ h_ => h_.1))) hb); have n2_ := a0 (Kd.R_below (by (with_reducible repeat (first | apply rA | apply rN | apply rD)); exact (Kd.R_mono (Kd.R_far (p := ⟨gb246, 5, none⟩) (Kd.R_far (p := ⟨gb246, 4, none⟩) (Kd.R_far (p := ⟨gb246, 3, none⟩) (Kd.R_far (p := ⟨gb246, 2, none⟩) (Kd.R_far (p := ⟨gb246, 1, none⟩) (Kd.R_far (p := ⟨gb246, 0, none⟩) (Kd.R_types HO245.out BK246.out (by decide)) (fun _ hk => hk.2) (.int .u64 t238)) (fun _ hk => hk.2) (.int .u64 t239)) (fun _ hk => hk.2) (.int .i64 t240)) (fun _ hk => hk.2) (.int .i64 t241)) (fun _ hk => hk.2) (.int .u64 t242)) (fun _ hk => hk.2) (.slice Ao38 t243.length co38)) (fun _ h_ => h_.1))) hb); have n3_ := a0 (blk_below (g := gb220) (o := .cells #[.int .u64 t222, .int .u64 t223, .int .i64 t224, .int .i64 t225, .int .u64 t226, .slice Ao22 t227.length co22] 66 (0, 0)) (by (with_reducible repeat (first | apply bN | apply bD | apply bA)); refine blk_far ?_ NB220_246.out _; refine blk_far ?_ NB220_246.out _; refine blk_far ?_ NB220_246.out _; refine blk_far ?_ NB220_246.out _; refine blk_far ?_ NB220_246.out _; refine blk_far ?_ NB220_246.out _; (with_reducible repeat (first | apply bN | apply bD | apply bA)); exact BK220.out) hb); have n4_ := a0 (blk_below (g := gb221) (o := .cells #[.int .u64 t230, .int .u64 t231, .int .i64 t232, .int .i64 t233, .int .u64 t234, .slice Ao29 t235.length co29] 66 (0, 0)) (by (with_reducible repeat (first | apply bN | apply bD | apply bA)); refine blk_far ?_ NB221_246.out _; refine blk_far ?_ NB221_246.out _; refine blk_far ?_ NB221_246.out _; refine blk_far ?_ NB221_246.out _; refine blk_far ?_ NB221_246.out _; refine blk_far ?_ NB221_246.out _; (with_reducible repeat (first | apply bN | apply bD | apply bA)); exact BK221.out) hb); have n5_ := a0 (blk_below (g := gb246) (o := .cells #[.int .u64 t238, .int .u64 t239, .int .i64 t240, .int .i64 t241, .int .u64 t242, .slice Ao38 t243.length co38] 71 (0, 0)) (by (with_reducible repeat (first | apply bN | apply bD | apply bA)); refine blk_put (cs := #[.int .u64 t238, .int .u64 t239, .int .i64 t240, .int .i64 t241, .int .u64 t242, .slice none 0 0]) ?_ 5 _ rfl; refine blk_put (cs := #[.int .u64 t238, .int .u64 t239, .int .i64 t240, .int .i64 t241, .int .u64 0, .slice none 0 0]) ?_ 4 _ rfl; refine blk_put (cs := #[.int .u64 t238, .int .u64 t239, .int .i64 t240, .int .i64 0, .int .u64 0, .slice none 0 0]) ?_ 3 _ rfl; refine blk_put (cs := #[.int .u64 t238, .int .u64 t239, .int .i64 0, .int .i64 0, .int .u64 0, .slice none 0 0]) ?_ 2 _ rfl; refine blk_put (cs := #[.int .u64 t238, .int .u64 0, .int .i64 0, .int .i64 0, .int .u64 0, .slice none 0 0]) ?_ 1 _ rfl; refine blk_put (cs := #[.int .u64 0, .int .u64 0, .int .i64 0, .int .i64 0, .int .u64 0, .slice none 0 0]) ?_ 0 _ rfl; (with_reducible repeat (first | apply bN | apply bD | apply bA)); exact BK246.out) hb); have n6_ := a0 (below_step (by repeat (first | (with_reducible first | exact HB.out | apply lA | apply lN | apply lD | refine below_set ?_ GE220.out | refine below_set ?_ GE221.out | refine below_set ?_ GE246.out) | exact HB.out)) hb); clear HO229; clear HO237; clear HO245; clear BK220; clear BK221; clear BK246; clear HB; have HO229 := n0_; have HO237 := n1_; have HO245 := n2_; have BK220 := n3_; have BK221 := n4_; have BK246 := n5_; have HB := n6_; clear n0_ n1_ n2_ n3_ n4_ n5_ n6_; (try clear hb); (try clear hb2); (try clear hk); (try clear hi); obtain ⟨hcz40_0, hcz40_1, hcz40_2, hcz40_3, hcz40_4, hcz40_5, hfz40_0, hfz40_1, hfz40_2, hfz40_3, hfz40_4, hfz40_5⟩ := cel6 BK220.out) | ((with_reducible refine gate_callee (f := 48) rfl ?_); refine goesL_ (some 27) rfl rfl Try.func48 (by kernel_rfl) rfl #[.agg #[.int .u64 t222, .int .u64 t223, .int .i64 t224, .int .i64 t225, .int .u64 t226, .slice Ao22 t227.length co22]] rfl (by (try simp only [List.map_toArray, List.map_cons, List.map_nil]); first | done | rfl | (simp only [List.length_drop, List.length_take]; rfl)) ?_; (with_reducible refine (keygram_Bytes.calls t222 t223 t224 t225 t226 _ _ t227 t248 t251 _ ?side1 ?side2 A8.out).mono ?_); (case side1 => repeat (first | exact (Kd.N_reads' HO229.out).2.2 | (with_reducible refine Kd.C_alloc ?_ _) | (with_reducible refine Kd.C_drewN ?_ _) | (with_reducible refine Kd.C_drew ?_))); (case side2 => exact (Kd.N_reads' HO229.out).2.1); rintro e w41 ⟨v249, rfl, ho0, hb⟩; refine ⟨_, rfl, ?_⟩; have n0_ := a0 (Kd.N_elder' (by (with_reducible repeat (first | apply Kd.N_alloc | apply Kd.N_drewN | apply Kd.N_drew)); exact HO229.out) (Kd.R_base ho0) hb); have n1_ := a0 (Kd.N_elder' (by (with_reducible repeat (first | apply Kd.N_alloc | apply Kd.N_drewN | apply Kd.N_drew)); exact HO237.out) (Kd.R_base ho0) hb); have n2_ := a0 (Kd.R_below (by (with_reducible repeat (first | apply rA | apply rN | apply rD)); exact HO245.out) hb); have n3_ := a0 (Kd.R_lower ho0 (below_size (by repeat (first | (with_reducible first | exact HB.out | apply lA | apply lN | apply lD | refine below_set ?_ GE220.out | refine below_set ?_ GE221.out | refine below_set ?_ GE246.out) | exact HB.out)))); have n4_ := a0 (blk_below (g := gb220) (o := .cells #[.int .u64 t222, .int .u64 t223, .int .i64 t224, .int .i64 t225, .int .u64 t226, .slice Ao22 t227.length co22] 66 (0, 0)) (by (with_reducible repeat (first | apply bN | apply bD | apply bA)); exact BK220.out) hb); have n5_ := a0 (blk_below (g := gb221) (o := .cells #[.int .u64 t230, .int .u64 t231, .int .i64 t232, .int .i64 t233, .int .u64 t234, .slice Ao29 t235.length co29] 66 (0, 0)) (by (with_reducible repeat (first | apply bN | apply bD | apply bA)); exact BK221.out) hb); have n6_ := a0 (blk_below (g := gb246) (o := .cells #[.int .u64 t238, .int .u64 t239, .int .i64 t240, .int .i64 t241, .int .u64 t242, .slice Ao38 t243.length co38] 71 (0, 0)) (by (with_reducible repeat (first | apply bN | apply bD | apply bA)); exact BK246.out) hb); have n7_ := a0 (below_step (by repeat (first | (with_reducible first | exact HB.out | apply lA | apply lN | apply lD | refine below_set ?_ GE220.out | refine below_set ?_ GE221.out | refine below_set ?_ GE246.out) | exact HB.out)) hb); clear HO229; clear HO237; clear HO245; clear BK220; clear BK221; clear BK246; clear HB; have HO229 := n0_; have HO237 := n1_; have HO245 := n2_; have HO250 := n3_; have BK220 := n4_; have BK221 := n5_; have BK246 := n6_; have HB := n7_; clear n0_ n1_ n2_ n3_ n4_ n5_ n6_ n7_; (try clear hb); (try clear hb2); (try clear hk); (try clear hi); (try clear ho0); obtain ⟨hcz42_0, hcz42_1, hcz42_2, hcz42_3, hcz42_4, hcz42_5, hfz42_0, hfz42_1, hfz42_2, hfz42_3, hfz42_4, hfz42_5⟩ := cel6 BK220.out) | ((with_reducible refine gate_callee (f := 51) rfl ?_); refine goesL_ (some 33) rfl rfl Try.func51 (by kernel_rfl) rfl #[.agg #[.int .u64 t222, .int .u64 t223, .int .i64 t224, .int .i64 t225, .int .u64 t226, .slice Ao22 t227.length co22], .int .u64 a2] rfl (by (try simp only [List.map_toArray, List.map_cons, List.map_nil]); first | done | rfl | (simp only [List.length_drop, List.length_take]; rfl)) ?_; (with_reducible refine (keygram_Key.calls k t222 t223 t224 t225 t226 _ _ t227 a2 t252 t255 _ ?side1 ?side2 A9.out).mono ?_); (case side1 => repeat (first | exact (Kd.N_reads' HO229.out).2.2 | (with_reducible refine Kd.C_alloc ?_ _) | (with_reducible refine Kd.C_drewN ?_ _) | (with_reducible refine Kd.C_drew ?_))); (case side2 => exact (Kd.N_reads' HO229.out).2.1); rintro e w43 ⟨v253, rfl, ho0, hb⟩; refine ⟨_, rfl, ?_⟩; have n0_ := a0 (Kd.N_elder' (by (with_reducible repeat (first | apply Kd.N_alloc | apply Kd.N_drewN | apply Kd.N_drew)); exact HO229.out) (Kd.R_base ho0) hb); have n1_ := a0 (Kd.N_elder' (by (with_reducible repeat (first | apply Kd.N_alloc | apply Kd.N_drewN | apply Kd.N_drew)); exact HO237.out) (Kd.R_base ho0) hb); have n2_ := a0 (Kd.R_below (by (with_reducible repeat (first | apply rA | apply rN | apply rD)); exact HO245.out) hb); have n3_ := a0 (Kd.R_elder' (by (with_reducible repeat (first | apply rA | apply rN | apply rD)); exact HO250.out) (Kd.R_base ho0) hb); have n4_ := a0 (Kd.R_lower (Kd.R_new' ho0 (Kd.R_lt (by (with_reducible repeat (first | apply rA | apply rN | apply rD)); exact HO250.out))) (below_size (by repeat (first | (with_reducible first | exact HB.out | apply lA | apply lN | apply lD | refine below_set ?_ GE220.out | refine below_set ?_ GE221.out | refine below_set ?_ GE246.out) | exact HB.out)))); have n5_ := a0 (blk_below (g := gb220) (o := .cells #[.int .u64 t222, .int .u64 t223, .int .i64 t224, .int .i64 t225, .int .u64 t226, .slice Ao22 t227.length co22] 66 (0, 0)) (by (with_reducible repeat (first | apply bN | apply bD | apply bA)); exact BK220.out) hb); have n6_ := a0 (blk_below (g := gb221) (o := .cells #[.int .u64 t230, .int .u64 t231, .int .i64 t232, .int .i64 t233, .int .u64 t234, .slice Ao29 t235.length co29] 66 (0, 0)) (by (with_reducible repeat (first | apply bN | apply bD | apply bA)); exact BK221.out) hb); have n7_ := a0 (blk_below (g := gb246) (o := .cells #[.int .u64 t238, .int .u64 t239, .int .i64 t240, .int .i64 t241, .int .u64 t242, .slice Ao38 t243.length co38] 71 (0, 0)) (by (with_reducible repeat (first | apply bN | apply bD | apply bA)); exact BK246.out) hb); have n8_ := a0 (below_step (by repeat (first | (with_reducible first | exact HB.out | apply lA | apply lN | apply lD | refine below_set ?_ GE220.out | refine below_set ?_ GE221.out | refine below_set ?_ GE246.out) | exact HB.out)) hb); clear HO229; clear HO237; clear HO245; clear HO250; clear BK220; clear BK221; clear BK246; clear HB; have HO229 := n0_; have HO237 := n1_; have HO245 := n2_; have HO250 := n3_; have HO254 := n4_; have BK220 := n5_; have BK221 := n6_; have BK246 := n7_; have HB := n8_; clear n0_ n1_ n2_ n3_ n4_ n5_ n6_ n7_ n8_; (try clear hb); (try clear hb2); (try clear hk); (try clear hi); (try clear ho0); obtain ⟨hcz44_0, hcz44_1, hcz44_2, hcz44_3, hcz44_4, hcz44_5, hfz44_0, hfz44_1, hfz44_2, hfz44_3, hfz44_4, hfz44_5⟩ := cel6 BK246.out) | ((with_reducible refine gate_callee (f := 52) rfl ?_); refine goesL_ (some 39) rfl rfl Try.func52 (by kernel_rfl) rfl #[.agg #[.int .u64 t238, .int .u64 t239, .int .i64 t240, .int .i64 t241, .int .u64 t242, .slice Ao38 t243.length co38], .int .u64 a2] rfl (by (try simp only [List.map_toArray, List.map_cons, List.map_nil]); first | done | rfl | (simp only [List.length_drop, List.length_take]; rfl)) ?_; (with_reducible refine (prolepsisref14_Key.calls k t238 t239 t240 t241 t242 _ _ t243 a2 t256 t257 _ ?side1 ?side2 A10.out).mono ?_); (case side1 => repeat (first | exact (Kd.R_reads' HO245.out).2.2 | (with_reducible refine Kd.C_alloc ?_ _) | (with_reducible refine Kd.C_drewN ?_ _) | (with_reducible refine Kd.C_drew ?_))); (case side2 => exact (Kd.R_reads' HO245.out).2.1); rintro e w45 ⟨rfl, hb⟩; refine ⟨_, rfl, ?_⟩; have n0_ := a0 (Kd.N_below (by (with_reducible repeat (first | apply Kd.N_alloc | apply Kd.N_drewN | apply Kd.N_drew)); exact HO229.out) hb); have n1_ := a0 (Kd.N_below (by (with_reducible repeat (first | apply Kd.N_alloc | apply Kd.N_drewN | apply Kd.N_drew)); exact HO237.out) hb); have n2_ := a0 (Kd.R_below (by (with_reducible repeat (first | apply rA | apply rN | apply rD)); exact HO245.out) hb); have n3_ := a0 (Kd.R_below (by (with_reducible repeat (first | apply rA | apply rN | apply rD)); exact HO250.out) hb); have n4_ := a0 (Kd.R_below (by (with_reducible repeat (first | apply rA | apply rN | apply rD)); exact HO254.out) hb); have n5_ := a0 (blk_below (g := gb220) (o := .cells #[.int .u64 t222, .int .u64 t223, .int .i64 t224, .int .i64 t225, .int .u64 t226, .slice Ao22 t227.length co22] 66 (0, 0)) (by (with_reducible repeat (first | apply bN | apply bD | apply bA)); exact BK220.out) hb); have n6_ := a0 (blk_below (g := gb221) (o := .cells #[.int .u64 t230, .int .u64 t231, .int .i64 t232, .int .i64 t233, .int .u64 t234, .slice Ao29 t235.length co29] 66 (0, 0)) (by (with_reducible repeat (first | apply bN | apply bD | apply bA)); exact BK221.out) hb); have n7_ := a0 (blk_below (g := gb246) (o := .cells #[.int .u64 t238, .int .u64 t239, .int .i64 t240, .int .i64 t241, .int .u64 t242, .slice Ao38 t243.length co38] 71 (0, 0)) (by (with_reducible repeat (first | apply bN | apply bD | apply bA)); exact BK246.out) hb); have n8_ := a0 (below_step (by repeat (first | (with_reducible first | exact HB.out | apply lA | apply lN | apply lD | refine below_set ?_ GE220.out | refine below_set ?_ GE221.out | refine below_set ?_ GE246.out) | exact HB.out)) hb); clear HO229; clear HO237; clear HO245; clear HO250; clear HO254; clear BK220; clear BK221; clear BK246; clear HB; have HO229 := n0_; have HO237 := n1_; have HO245 := n2_; have HO250 := n3_; have HO254 := n4_; have BK220 := n5_; have BK221 := n6_; have BK246 := n7_; have HB := n8_; clear n0_ n1_ n2_ n3_ n4_ n5_ n6_ n7_ n8_; (try clear hb); (try clear hb2); (try clear hk); (try clear hi)))
  (try simp only [Act.put, List.setIfInBounds_toArray, List.set_cons_zero, List.set_cons_succ])
  go_cut [84] (fun v84 wc => ∃ (kq : Nat) (x84_10 : Bool), v84 = .bool x84_10 ∧ Aside0 (prolepsislaw14_KeygramTells.j0 kq t247 t248 x84_10 t222 t223 t224 t225 t226 t227 t238 t239 t240 t241 t242 t243 = some r) ∧ Aside0 (kq ≤ k) ∧ Aside0 (Kd.R (Kd.int .u8) 5 wc w.heap.size (fun _ => True) v249 t248) ∧ Aside0 (Kd.N (Kd.slice 5 (Kd.int .u8)) 27 wc w.heap.size (fun k_ => some k_ ≠ (v249 : Value).ownBlock ∧ some k_ ≠ ((.slice Ao29 t235.length co29) : Value).ownBlock ∧ some k_ ≠ ((.slice Ao38 t243.length co38) : Value).ownBlock ∧ k_ ≠ gb220 ∧ k_ ≠ gb221 ∧ k_ ≠ gb246) (.slice Ao22 t227.length co22) t227) ∧ Aside0 (Kd.N (Kd.slice 5 (Kd.int .u8)) 27 wc w.heap.size (fun k_ => some k_ ≠ (v249 : Value).ownBlock ∧ some k_ ≠ ((.slice Ao22 t227.length co22) : Value).ownBlock ∧ some k_ ≠ ((.slice Ao38 t243.length co38) : Value).ownBlock ∧ k_ ≠ gb220 ∧ k_ ≠ gb221 ∧ k_ ≠ gb246) (.slice Ao29 t235.length co29) t235) ∧ Aside0 (Kd.R Kd.string 9 wc w.heap.size (fun _ => True) (.slice Ao38 t243.length co38) t243) ∧ Aside0 (wc.heap[gb220]? = some (.cells #[.int .u64 t222, .int .u64 t223, .int .i64 t224, .int .i64 t225, .int .u64 t226, (.slice Ao22 t227.length co22)] 66 (0, 0))) ∧ Aside0 (wc.heap[gb221]? = some (.cells #[.int .u64 t230, .int .u64 t231, .int .i64 t232, .int .i64 t233, .int .u64 t234, (.slice Ao29 t235.length co29)] 66 (0, 0))) ∧ Aside0 (wc.heap[gb246]? = some (.cells #[.int .u64 t238, .int .u64 t239, .int .i64 t240, .int .i64 t241, .int .u64 t242, (.slice Ao38 t243.length co38)] 71 (0, 0))) ∧ Aside0 (Below w.heap.size w wc))
  case first =>
    have H := HC11.out
    clear HC11
    replace H := Option.bind_eq_some_iff.mp H
    obtain ⟨t258, A460, H⟩ := H
    try dsimp only at H
    have A46 := Aside0.mk A460
    clear A460
    by_cases c47 : t258 = t247
    · rw [if_pos c47] at H
      have c47b0 : (t258 == t247) = true := beq_iff_eq.mpr c47
      have c47b1 : (t258 != t247) = false := bne_eq_false_iff_eq.mpr c47
      clear c47
      (first | rw [c47b0] | (simp only [i64_w, i32_w]; rw [c47b0]) | skip)
      by_cases c48 : t251 = t247
      · rw [if_pos c48] at H
        have c48b0 : (t251 == t247) = true := beq_iff_eq.mpr c48
        have c48b1 : (t251 != t247) = false := bne_eq_false_iff_eq.mpr c48
        clear c48
        replace H := Option.bind_eq_some_iff.mp H
        obtain ⟨t259, A490, H⟩ := H
        try dsimp only at H
        have A49 := Aside0.mk A490
        clear A490
        replace H := Option.bind_eq_some_iff.mp H
        obtain ⟨t260, A500, H⟩ := H
        try dsimp only at H
        have A50 := Aside0.mk A500
        clear A500
        by_cases c51 : t259 = t260
        · rw [if_pos c51] at H
          have c51b0 : (t259 == t260) = true := beq_iff_eq.mpr c51
          have c51b1 : (t259 != t260) = false := bne_eq_false_iff_eq.mpr c51
          clear c51
          by_cases c52 : (strOfNums t252).toList = t256.toList
          · rw [if_pos c52] at H
            have c52b0 : ((strOfNums t252).toList == t256.toList) = true := beq_iff_eq.mpr c52
            have c52b1 : ((strOfNums t252).toList != t256.toList) = false := bne_eq_false_iff_eq.mpr c52
            clear c52
            by_cases c53 : (t255 != t257) = true
            · rw [if_pos c53] at H
              have c53b0 : (t255 != t257) = true := c53
              (try (have c53b1 : decide (t255 = t257) = false := by simpa using c53))
              (try (have c53b2 : (t255 == t257) = false := by simpa using c53))
              (try (have c53b3 : ¬ (t255 = t257) := by simpa using c53))
              clear c53
              have H' := Aside0.mk H
              clear H
              try go_wp2
              have n0_ := a0 (Kd.N_drew HO229.out)
              have n1_ := a0 (Kd.N_drew HO237.out)
              have n2_ := a0 (Kd.R_drew HO245.out)
              have n3_ := a0 (Kd.R_drew HO250.out)
              have n4_ := a0 (Kd.R_drew HO254.out)
              have n5_ := a0 (blk_drew BK220.out)
              have n6_ := a0 (blk_drew BK221.out)
              have n7_ := a0 (blk_drew BK246.out)
              have n8_ := a0 (below_drew1 HB.out)
              clear HO229
              clear HO237
              clear HO245
              clear HO250
              clear HO254
              clear BK220
              clear BK221
              clear BK246
              clear HB
              have HO229 := n0_
              have HO237 := n1_
              have HO245 := n2_
              have HO250 := n3_
              have HO254 := n4_
              have BK220 := n5_
              have BK221 := n6_
              have BK246 := n7_
              have HB := n8_
              clear n0_ n1_ n2_ n3_ n4_ n5_ n6_ n7_ n8_
              refine start_ (n := 43) (S := fun w' => w'.cell? ⟨gb220, 0, none⟩ = some (.int .u64 t222) ∧ w'.cell? ⟨gb220, 1, none⟩ = some (.int .u64 t223) ∧ w'.cell? ⟨gb220, 2, none⟩ = some (.int .i64 t224) ∧ w'.cell? ⟨gb220, 3, none⟩ = some (.int .i64 t225) ∧ w'.cell? ⟨gb220, 4, none⟩ = some (.int .u64 t226) ∧ w'.cell? ⟨gb220, 5, none⟩ = some (.slice Ao22 t227.length co22) ∧ w'.cell? ⟨gb246, 0, none⟩ = some (.int .u64 t238) ∧ w'.cell? ⟨gb246, 1, none⟩ = some (.int .u64 t239) ∧ w'.cell? ⟨gb246, 2, none⟩ = some (.int .i64 t240) ∧ w'.cell? ⟨gb246, 3, none⟩ = some (.int .i64 t241) ∧ w'.cell? ⟨gb246, 4, none⟩ = some (.int .u64 t242) ∧ w'.cell? ⟨gb246, 5, none⟩ = some (.slice Ao38 t243.length co38) ∧ (convert 27 9 v253).run Try.prog w' = .ok (.string (strOfNums t252)) w') (ds := []) (tf 0 43) (by kernel_rfl) rfl rfl ⟨(blk_cell BK220.out 0).trans rfl, (blk_cell BK220.out 1).trans rfl, (blk_cell BK220.out 2).trans rfl, (blk_cell BK220.out 3).trans rfl, (blk_cell BK220.out 4).trans rfl, (blk_cell BK220.out 5).trans rfl, (blk_cell BK246.out 0).trans rfl, (blk_cell BK246.out 1).trans rfl, (blk_cell BK246.out 2).trans rfl, (blk_cell BK246.out 3).trans rfl, (blk_cell BK246.out 4).trans rfl, (blk_cell BK246.out 5).trans rfl, (own_string (P := Try.prog) Try.underlying27 Try.underlying5 Try.underlying9 (Kd.own_of_R HO254.out))⟩ (fun hHeld => ?_); refine with_tabW prolepsislaw14_KeygramTells.tab7 prolepsislaw14_KeygramTells.bits7 (fun HT_ HW_ => ?_)
              generalize w45.drew = w54 at HO229 HO237 HO245 HO250 HO254 BK220 BK221 BK246 HB hHeld ⊢
              refine pure_ (i := 2) (N := some 44) (v := ?_) (a' := ?_) #[false, false, true, false, false, false, false, false, false, false, false, false, false, false, false, false, false, false, false, false, false, false, false, false, false, false, false, false, false, false, false, false, false, false, false, false, false, false, false, false, false, false, false] rfl rfl (any_of HT_.out (by kernel_rfl)) (fun _ _ _ h => h) (Or.inl ⟨by rfl, ?_⟩) ?_ ?_
              rotate_left
              · intro w'
                go_simp
                with_reducible rfl
              rotate_left
              · simp only [Act.put, List.setIfInBounds_toArray, List.set_cons_zero, List.set_cons_succ, i64_w, i32_w]
                rfl
              refine take_ (i := 0) (N := some 42) (v := ?_) (a' := ?_) #[true, false, true, false, false, false, false, false, false, false, false, false, false, false, false, false, false, false, false, false, false, false, false, false, false, false, false, false, false, false, false, false, false, false, false, false, false, false, false, false, false, false, false] rfl rfl (take_ofW HT_.out HW_.out (by kernel_rfl)) (fun _ _ _ h => h) (Or.inl ⟨by rfl, ?_⟩) hHeld ?_ ?_
              rotate_left
              · rintro w' ⟨s0, s1, s2, s3, s4, s5, s6, s7, s8, s9, s10, s11, s12⟩
                go_simp
                with_reducible rfl
              rotate_left
              · simp only [Act.put, List.setIfInBounds_toArray, List.set_cons_zero, List.set_cons_succ, i64_w, i32_w]
                rfl
              refine one_ (i := 1) (N := some 43) (tf 3 40) rfl rfl (one_of HT_.out (by kernel_rfl)) (by decide) (fun K hK => ?_)
              refine goes_ Try.func40 (by kernel_rfl) rfl #[.agg #[.int .u64 t222, .int .u64 t223, .int .i64 t224, .int .i64 t225, .int .u64 t226, .slice Ao22 t227.length co22]] (by rfl) rfl rfl (by (try simp only [List.map_toArray, List.map_cons, List.map_nil]); first | done | rfl | (simp only [List.length_drop, List.length_take]; rfl)) ?_
              with_reducible refine (keygram_Check.calls k t222 t223 t224 t225 t226 _ _ t227 t258 _ ?side1 ?side2 A46.out).mono ?_
              (case side1 => repeat (first | exact (Kd.N_reads' HO229.out).2.2 | (with_reducible refine Kd.C_alloc ?_ _) | (with_reducible refine Kd.C_drewN ?_ _) | (with_reducible refine Kd.C_drew ?_)))
              (case side2 => exact (Kd.N_reads' HO229.out).2.1)
              rintro e w55 ⟨rfl, hb⟩
              refine ⟨_, rfl, ?_⟩
              have n0_ := a0 (Kd.N_below (by (with_reducible repeat (first | apply Kd.N_alloc | apply Kd.N_drewN | apply Kd.N_drew)); exact HO229.out) hb)
              have n1_ := a0 (Kd.N_below (by (with_reducible repeat (first | apply Kd.N_alloc | apply Kd.N_drewN | apply Kd.N_drew)); exact HO237.out) hb)
              have n2_ := a0 (Kd.R_below (by (with_reducible repeat (first | apply rA | apply rN | apply rD)); exact HO245.out) hb)
              have n3_ := a0 (Kd.R_below (by (with_reducible repeat (first | apply rA | apply rN | apply rD)); exact HO250.out) hb)
              have n4_ := a0 (Kd.R_below (by (with_reducible repeat (first | apply rA | apply rN | apply rD)); exact HO254.out) hb)
              have n5_ := a0 (blk_below (g := gb220) (o := .cells #[.int .u64 t222, .int .u64 t223, .int .i64 t224, .int .i64 t225, .int .u64 t226, .slice Ao22 t227.length co22] 66 (0, 0)) (by (with_reducible repeat (first | apply bN | apply bD | apply bA)); exact BK220.out) hb)
              have n6_ := a0 (blk_below (g := gb221) (o := .cells #[.int .u64 t230, .int .u64 t231, .int .i64 t232, .int .i64 t233, .int .u64 t234, .slice Ao29 t235.length co29] 66 (0, 0)) (by (with_reducible repeat (first | apply bN | apply bD | apply bA)); exact BK221.out) hb)
              have n7_ := a0 (blk_below (g := gb246) (o := .cells #[.int .u64 t238, .int .u64 t239, .int .i64 t240, .int .i64 t241, .int .u64 t242, .slice Ao38 t243.length co38] 71 (0, 0)) (by (with_reducible repeat (first | apply bN | apply bD | apply bA)); exact BK246.out) hb)
              have n8_ := a0 (below_step (by repeat (first | (with_reducible first | exact HB.out | apply lA | apply lN | apply lD | refine below_set ?_ GE220.out | refine below_set ?_ GE221.out | refine below_set ?_ GE246.out) | exact HB.out)) hb)
              clear HO229
              clear HO237
              clear HO245
              clear HO250
              clear HO254
              clear BK220
              clear BK221
              clear BK246
              clear HB
              have HO229 := n0_
              have HO237 := n1_
              have HO245 := n2_
              have HO250 := n3_
              have HO254 := n4_
              have BK220 := n5_
              have BK221 := n6_
              have BK246 := n7_
              have HB := n8_
              clear n0_ n1_ n2_ n3_ n4_ n5_ n6_ n7_ n8_
              (try clear hb)
              (try clear hb2)
              (try clear hk)
              (try clear hi)
              refine hK.out _ _ ⟨(blk_cell BK220.out 0).trans rfl, (blk_cell BK220.out 1).trans rfl, (blk_cell BK220.out 2).trans rfl, (blk_cell BK220.out 3).trans rfl, (blk_cell BK220.out 4).trans rfl, (blk_cell BK220.out 5).trans rfl, (blk_cell BK246.out 0).trans rfl, (blk_cell BK246.out 1).trans rfl, (blk_cell BK246.out 2).trans rfl, (blk_cell BK246.out 3).trans rfl, (blk_cell BK246.out 4).trans rfl, (blk_cell BK246.out 5).trans rfl, (own_string (P := Try.prog) Try.underlying27 Try.underlying5 Try.underlying9 (Kd.own_of_R HO254.out))⟩ (fun hHeld => ?_)
              clear hK K
              refine norm_ (a' := ?_) ?_ ?_
              rotate_left
              · show Act.put _ (some 43) _ = _
                simp only [Act.put, List.setIfInBounds_toArray, List.set_cons_zero, List.set_cons_succ, i64_w, i32_w]
                rfl
              refine pure_ (i := 3) (N := some 45) (v := ?_) (a' := ?_) (tf 4 39) rfl rfl (any_of HT_.out (by kernel_rfl)) (fun _ _ _ h => h) (Or.inl ⟨by rfl, ?_⟩) ?_ ?_
              rotate_left
              · intro w'
                go_simp
                with_reducible rfl
              rotate_left
              · simp only [Act.put, List.setIfInBounds_toArray, List.set_cons_zero, List.set_cons_succ, i64_w, i32_w]
                rfl
              refine pure_ (i := 4) (N := some 46) (v := ?_) (a' := ?_) (tf 5 38) rfl rfl (any_of HT_.out (by kernel_rfl)) (fun _ _ _ h => h) (Or.inl ⟨by rfl, ?_⟩) ?_ ?_
              rotate_left
              · intro w'
                go_simp
                with_reducible rfl
              rotate_left
              · simp only [Act.put, List.setIfInBounds_toArray, List.set_cons_zero, List.set_cons_succ, i64_w, i32_w]
                rfl
              refine pure_ (i := 5) (N := some 47) (v := ?_) (a' := ?_) (tf 6 37) rfl rfl (any_of HT_.out (by kernel_rfl)) (fun _ _ _ h => h) (Or.inl ⟨by rfl, ?_⟩) ?_ ?_
              rotate_left
              · intro w'
                go_simp
                with_reducible rfl
              rotate_left
              · simp only [Act.put, List.setIfInBounds_toArray, List.set_cons_zero, List.set_cons_succ, i64_w, i32_w]
                rfl
              refine pure_ (i := 6) (N := some 48) (v := ?_) (a' := ?_) (tf 7 36) rfl rfl (any_of HT_.out (by kernel_rfl)) (fun _ _ _ h => h) (Or.inl ⟨by rfl, ?_⟩) ?_ ?_
              rotate_left
              · intro w'
                go_simp
                with_reducible rfl
              rotate_left
              · simp only [Act.put, List.setIfInBounds_toArray, List.set_cons_zero, List.set_cons_succ, i64_w, i32_w]
                rfl
              refine pure_ (i := 7) (N := some 49) (v := ?_) (a' := ?_) (tf 8 35) rfl rfl (any_of HT_.out (by kernel_rfl)) (fun _ _ _ h => h) (Or.inl ⟨by rfl, ?_⟩) ?_ ?_
              rotate_left
              · intro w'
                go_simp
                with_reducible rfl
              rotate_left
              · simp only [Act.put, List.setIfInBounds_toArray, List.set_cons_zero, List.set_cons_succ, i64_w, i32_w]
                rfl
              refine pure_ (i := 8) (N := some 50) (v := ?_) (a' := ?_) (tf 9 34) rfl rfl (any_of HT_.out (by kernel_rfl)) (fun _ _ _ h => h) (Or.inl ⟨by rfl, ?_⟩) ?_ ?_
              rotate_left
              · intro w'
                go_simp
                with_reducible rfl
              rotate_left
              · simp only [Act.put, List.setIfInBounds_toArray, List.set_cons_zero, List.set_cons_succ, i64_w, i32_w]
                rfl
              refine pure_ (i := 9) (N := some 51) (v := ?_) (a' := ?_) (tf 10 33) rfl rfl (any_of HT_.out (by kernel_rfl)) (fun _ _ _ h => h) (Or.inl ⟨by rfl, ?_⟩) ?_ ?_
              rotate_left
              · intro w'
                go_simp
                with_reducible rfl
              rotate_left
              · simp only [Act.put, List.setIfInBounds_toArray, List.set_cons_zero, List.set_cons_succ, i64_w, i32_w]
                rfl
              refine take_ (i := 10) (N := some 52) (v := ?_) (a' := ?_) (tf 11 32) rfl rfl (take_ofW HT_.out HW_.out (by kernel_rfl)) (fun _ _ _ h => h) (Or.inl ⟨by rfl, ?_⟩) hHeld ?_ ?_
              rotate_left
              · rintro w' ⟨s0, s1, s2, s3, s4, s5, s6, s7, s8, s9, s10, s11, s12⟩
                go_simp
                with_reducible rfl
              rotate_left
              · simp only [Act.put, List.setIfInBounds_toArray, List.set_cons_zero, List.set_cons_succ, i64_w, i32_w]
                rfl
              refine take_ (i := 12) (N := some 54) (v := ?_) (a' := ?_) #[true, true, true, true, true, true, true, true, true, true, true, false, true, false, false, false, false, false, false, false, false, false, false, false, false, false, false, false, false, false, false, false, false, false, false, false, false, false, false, false, false, false, false] rfl rfl (take_ofW HT_.out HW_.out (by kernel_rfl)) (fun _ _ _ h => h) (Or.inl ⟨by rfl, ?_⟩) hHeld ?_ ?_
              rotate_left
              · rintro w' ⟨s0, s1, s2, s3, s4, s5, s6, s7, s8, s9, s10, s11, s12⟩
                go_simp
                with_reducible rfl
              rotate_left
              · simp only [Act.put, List.setIfInBounds_toArray, List.set_cons_zero, List.set_cons_succ, i64_w, i32_w]
                rfl
              refine one_ (i := 11) (N := some 53) (tf 13 30) rfl rfl (one_of HT_.out (by kernel_rfl)) (by decide) (fun K hK => ?_)
              refine goes_ Try.func43 (by kernel_rfl) rfl #[.agg #[.int .u64 t222, .int .u64 t223, .int .i64 t224, .int .i64 t225, .int .u64 t226, .slice Ao22 t227.length co22]] (by rfl) rfl rfl (by (try simp only [List.map_toArray, List.map_cons, List.map_nil]); first | done | rfl | (simp only [List.length_drop, List.length_take]; rfl)) ?_
              with_reducible refine (keygram_Last.calls k t222 t223 t224 t225 t226 _ _ t227 t259 _ ?side1 ?side2 A49.out).mono ?_
              (case side1 => repeat (first | exact (Kd.N_reads' HO229.out).2.2 | (with_reducible refine Kd.C_alloc ?_ _) | (with_reducible refine Kd.C_drewN ?_ _) | (with_reducible refine Kd.C_drew ?_)))
              (case side2 => exact (Kd.N_reads' HO229.out).2.1)
              rintro e w56 ⟨rfl, hb⟩
              refine ⟨_, rfl, ?_⟩
              have n0_ := a0 (Kd.N_below (by (with_reducible repeat (first | apply Kd.N_alloc | apply Kd.N_drewN | apply Kd.N_drew)); exact HO229.out) hb)
              have n1_ := a0 (Kd.N_below (by (with_reducible repeat (first | apply Kd.N_alloc | apply Kd.N_drewN | apply Kd.N_drew)); exact HO237.out) hb)
              have n2_ := a0 (Kd.R_below (by (with_reducible repeat (first | apply rA | apply rN | apply rD)); exact HO245.out) hb)
              have n3_ := a0 (Kd.R_below (by (with_reducible repeat (first | apply rA | apply rN | apply rD)); exact HO250.out) hb)
              have n4_ := a0 (Kd.R_below (by (with_reducible repeat (first | apply rA | apply rN | apply rD)); exact HO254.out) hb)
              have n5_ := a0 (blk_below (g := gb220) (o := .cells #[.int .u64 t222, .int .u64 t223, .int .i64 t224, .int .i64 t225, .int .u64 t226, .slice Ao22 t227.length co22] 66 (0, 0)) (by (with_reducible repeat (first | apply bN | apply bD | apply bA)); exact BK220.out) hb)
              have n6_ := a0 (blk_below (g := gb221) (o := .cells #[.int .u64 t230, .int .u64 t231, .int .i64 t232, .int .i64 t233, .int .u64 t234, .slice Ao29 t235.length co29] 66 (0, 0)) (by (with_reducible repeat (first | apply bN | apply bD | apply bA)); exact BK221.out) hb)
              have n7_ := a0 (blk_below (g := gb246) (o := .cells #[.int .u64 t238, .int .u64 t239, .int .i64 t240, .int .i64 t241, .int .u64 t242, .slice Ao38 t243.length co38] 71 (0, 0)) (by (with_reducible repeat (first | apply bN | apply bD | apply bA)); exact BK246.out) hb)
              have n8_ := a0 (below_step (by repeat (first | (with_reducible first | exact HB.out | apply lA | apply lN | apply lD | refine below_set ?_ GE220.out | refine below_set ?_ GE221.out | refine below_set ?_ GE246.out) | exact HB.out)) hb)
              clear HO229
              clear HO237
              clear HO245
              clear HO250
              clear HO254
              clear BK220
              clear BK221
              clear BK246
              clear HB
              have HO229 := n0_
              have HO237 := n1_
              have HO245 := n2_
              have HO250 := n3_
              have HO254 := n4_
              have BK220 := n5_
              have BK221 := n6_
              have BK246 := n7_
              have HB := n8_
              clear n0_ n1_ n2_ n3_ n4_ n5_ n6_ n7_ n8_
              (try clear hb)
              (try clear hb2)
              (try clear hk)
              (try clear hi)
              refine hK.out _ _ ⟨(blk_cell BK220.out 0).trans rfl, (blk_cell BK220.out 1).trans rfl, (blk_cell BK220.out 2).trans rfl, (blk_cell BK220.out 3).trans rfl, (blk_cell BK220.out 4).trans rfl, (blk_cell BK220.out 5).trans rfl, (blk_cell BK246.out 0).trans rfl, (blk_cell BK246.out 1).trans rfl, (blk_cell BK246.out 2).trans rfl, (blk_cell BK246.out 3).trans rfl, (blk_cell BK246.out 4).trans rfl, (blk_cell BK246.out 5).trans rfl, (own_string (P := Try.prog) Try.underlying27 Try.underlying5 Try.underlying9 (Kd.own_of_R HO254.out))⟩ (fun hHeld => ?_)
              clear hK K
              refine norm_ (a' := ?_) ?_ ?_
              rotate_left
              · show Act.put _ (some 53) _ = _
                simp only [Act.put, List.setIfInBounds_toArray, List.set_cons_zero, List.set_cons_succ, i64_w, i32_w]
                rfl
              refine one_ (i := 13) (N := some 55) (tf 14 29) rfl rfl (one_of HT_.out (by kernel_rfl)) (by decide) (fun K hK => ?_)
              refine goes_ Try.func44 (by kernel_rfl) rfl #[.agg #[.int .u64 t238, .int .u64 t239, .int .i64 t240, .int .i64 t241, .int .u64 t242, .slice Ao38 t243.length co38]] (by rfl) rfl rfl (by (try simp only [List.map_toArray, List.map_cons, List.map_nil]); first | done | rfl | (simp only [List.length_drop, List.length_take]; rfl)) ?_
              with_reducible refine (prolepsisref14_Last.calls k t238 t239 t240 t241 t242 _ _ t243 t260 _ ?side1 ?side2 A50.out).mono ?_
              (case side1 => repeat (first | exact (Kd.R_reads' HO245.out).2.2 | (with_reducible refine Kd.C_alloc ?_ _) | (with_reducible refine Kd.C_drewN ?_ _) | (with_reducible refine Kd.C_drew ?_)))
              (case side2 => exact (Kd.R_reads' HO245.out).2.1)
              rintro e w57 ⟨rfl, hb⟩
              refine ⟨_, rfl, ?_⟩
              have n0_ := a0 (Kd.N_below (by (with_reducible repeat (first | apply Kd.N_alloc | apply Kd.N_drewN | apply Kd.N_drew)); exact HO229.out) hb)
              have n1_ := a0 (Kd.N_below (by (with_reducible repeat (first | apply Kd.N_alloc | apply Kd.N_drewN | apply Kd.N_drew)); exact HO237.out) hb)
              have n2_ := a0 (Kd.R_below (by (with_reducible repeat (first | apply rA | apply rN | apply rD)); exact HO245.out) hb)
              have n3_ := a0 (Kd.R_below (by (with_reducible repeat (first | apply rA | apply rN | apply rD)); exact HO250.out) hb)
              have n4_ := a0 (Kd.R_below (by (with_reducible repeat (first | apply rA | apply rN | apply rD)); exact HO254.out) hb)
              have n5_ := a0 (blk_below (g := gb220) (o := .cells #[.int .u64 t222, .int .u64 t223, .int .i64 t224, .int .i64 t225, .int .u64 t226, .slice Ao22 t227.length co22] 66 (0, 0)) (by (with_reducible repeat (first | apply bN | apply bD | apply bA)); exact BK220.out) hb)
              have n6_ := a0 (blk_below (g := gb221) (o := .cells #[.int .u64 t230, .int .u64 t231, .int .i64 t232, .int .i64 t233, .int .u64 t234, .slice Ao29 t235.length co29] 66 (0, 0)) (by (with_reducible repeat (first | apply bN | apply bD | apply bA)); exact BK221.out) hb)
              have n7_ := a0 (blk_below (g := gb246) (o := .cells #[.int .u64 t238, .int .u64 t239, .int .i64 t240, .int .i64 t241, .int .u64 t242, .slice Ao38 t243.length co38] 71 (0, 0)) (by (with_reducible repeat (first | apply bN | apply bD | apply bA)); exact BK246.out) hb)
              have n8_ := a0 (below_step (by repeat (first | (with_reducible first | exact HB.out | apply lA | apply lN | apply lD | refine below_set ?_ GE220.out | refine below_set ?_ GE221.out | refine below_set ?_ GE246.out) | exact HB.out)) hb)
              clear HO229
              clear HO237
              clear HO245
              clear HO250
              clear HO254
              clear BK220
              clear BK221
              clear BK246
              clear HB
              have HO229 := n0_
              have HO237 := n1_
              have HO245 := n2_
              have HO250 := n3_
              have HO254 := n4_
              have BK220 := n5_
              have BK221 := n6_
              have BK246 := n7_
              have HB := n8_
              clear n0_ n1_ n2_ n3_ n4_ n5_ n6_ n7_ n8_
              (try clear hb)
              (try clear hb2)
              (try clear hk)
              (try clear hi)
              refine hK.out _ _ ⟨(blk_cell BK220.out 0).trans rfl, (blk_cell BK220.out 1).trans rfl, (blk_cell BK220.out 2).trans rfl, (blk_cell BK220.out 3).trans rfl, (blk_cell BK220.out 4).trans rfl, (blk_cell BK220.out 5).trans rfl, (blk_cell BK246.out 0).trans rfl, (blk_cell BK246.out 1).trans rfl, (blk_cell BK246.out 2).trans rfl, (blk_cell BK246.out 3).trans rfl, (blk_cell BK246.out 4).trans rfl, (blk_cell BK246.out 5).trans rfl, (own_string (P := Try.prog) Try.underlying27 Try.underlying5 Try.underlying9 (Kd.own_of_R HO254.out))⟩ (fun hHeld => ?_)
              clear hK K
              refine norm_ (a' := ?_) ?_ ?_
              rotate_left
              · show Act.put _ (some 55) _ = _
                simp only [Act.put, List.setIfInBounds_toArray, List.set_cons_zero, List.set_cons_succ, i64_w, i32_w]
                rfl
              refine pure_ (i := 14) (N := some 56) (v := ?_) (a' := ?_) (tf 15 28) rfl rfl (any_of HT_.out (by kernel_rfl)) (fun _ _ _ h => h) (Or.inl ⟨by rfl, ?_⟩) ?_ ?_
              rotate_left
              · intro w'
                go_simp
                with_reducible rfl
              rotate_left
              · simp only [Act.put, List.setIfInBounds_toArray, List.set_cons_zero, List.set_cons_succ, i64_w, i32_w]
                rfl
              refine pure_ (i := 15) (N := some 57) (v := ?_) (a' := ?_) (tf 16 27) rfl rfl (any_of HT_.out (by kernel_rfl)) (fun _ _ _ h => h) (Or.inl ⟨by rfl, ?_⟩) ?_ ?_
              rotate_left
              · intro w'
                go_simp
                with_reducible rfl
              rotate_left
              · simp only [Act.put, List.setIfInBounds_toArray, List.set_cons_zero, List.set_cons_succ, i64_w, i32_w]
                rfl
              refine pure_ (i := 16) (N := some 58) (v := ?_) (a' := ?_) (tf 17 26) rfl rfl (any_of HT_.out (by kernel_rfl)) (fun _ _ _ h => h) (Or.inl ⟨by rfl, ?_⟩) ?_ ?_
              rotate_left
              · intro w'
                go_simp
                with_reducible rfl
              rotate_left
              · simp only [Act.put, List.setIfInBounds_toArray, List.set_cons_zero, List.set_cons_succ, i64_w, i32_w]
                rfl
              refine pure_ (i := 17) (N := some 59) (v := ?_) (a' := ?_) (tf 18 25) rfl rfl (any_of HT_.out (by kernel_rfl)) (fun _ _ _ h => h) (Or.inl ⟨by rfl, ?_⟩) ?_ ?_
              rotate_left
              · intro w'
                go_simp
                with_reducible rfl
              rotate_left
              · simp only [Act.put, List.setIfInBounds_toArray, List.set_cons_zero, List.set_cons_succ, i64_w, i32_w]
                rfl
              refine pure_ (i := 19) (N := some 61) (v := ?_) (a' := ?_) #[true, true, true, true, true, true, true, true, true, true, true, true, true, true, true, true, true, true, false, true, false, false, false, false, false, false, false, false, false, false, false, false, false, false, false, false, false, false, false, false, false, false, false] rfl rfl (any_of HT_.out (by kernel_rfl)) (fun _ _ _ h => h) (Or.inl ⟨by rfl, ?_⟩) ?_ ?_
              rotate_left
              · intro w'
                go_simp
                with_reducible rfl
              rotate_left
              · simp only [Act.put, List.setIfInBounds_toArray, List.set_cons_zero, List.set_cons_succ, i64_w, i32_w]
                rfl
              refine take_ (i := 18) (N := some 60) (v := ?_) (a' := ?_) (tf 20 23) rfl rfl (take_ofW HT_.out HW_.out (by kernel_rfl)) (fun _ _ _ h => h) (Or.inl ⟨by rfl, ?_⟩) hHeld ?_ ?_
              rotate_left
              · rintro w' ⟨s0, s1, s2, s3, s4, s5, s6, s7, s8, s9, s10, s11, s12⟩
                go_simp
                with_reducible rfl
              rotate_left
              · simp only [Act.put, List.setIfInBounds_toArray, List.set_cons_zero, List.set_cons_succ, i64_w, i32_w]
                rfl
              refine pure_ (i := 20) (N := some 62) (v := ?_) (a' := ?_) (tf 21 22) rfl rfl (any_of HT_.out (by kernel_rfl)) (fun _ _ _ h => h) (Or.inl ⟨by rfl, ?_⟩) ?_ ?_
              rotate_left
              · intro w'
                go_simp
                with_reducible rfl
              rotate_left
              · simp only [Act.put, List.setIfInBounds_toArray, List.set_cons_zero, List.set_cons_succ, i64_w, i32_w]
                rfl
              refine pure_ (i := 21) (N := some 63) (v := ?_) (a' := ?_) (tf 22 21) rfl rfl (any_of HT_.out (by kernel_rfl)) (fun _ _ _ h => h) (Or.inl ⟨by rfl, ?_⟩) ?_ ?_
              rotate_left
              · intro w'
                go_simp
                with_reducible rfl
              rotate_left
              · simp only [Act.put, List.setIfInBounds_toArray, List.set_cons_zero, List.set_cons_succ, i64_w, i32_w]
                rfl
              refine pure_ (i := 22) (N := some 64) (v := ?_) (a' := ?_) (tf 23 20) rfl rfl (any_of HT_.out (by kernel_rfl)) (fun _ _ _ h => h) (Or.inl ⟨by rfl, ?_⟩) ?_ ?_
              rotate_left
              · intro w'
                go_simp
                with_reducible rfl
              rotate_left
              · simp only [Act.put, List.setIfInBounds_toArray, List.set_cons_zero, List.set_cons_succ, i64_w, i32_w]
                rfl
              refine pure_ (i := 23) (N := some 65) (v := ?_) (a' := ?_) (tf 24 19) rfl rfl (any_of HT_.out (by kernel_rfl)) (fun _ _ _ h => h) (Or.inl ⟨by rfl, ?_⟩) ?_ ?_
              rotate_left
              · intro w'
                go_simp
                with_reducible rfl
              rotate_left
              · simp only [Act.put, List.setIfInBounds_toArray, List.set_cons_zero, List.set_cons_succ, i64_w, i32_w]
                rfl
              refine pure_ (i := 24) (N := some 66) (v := ?_) (a' := ?_) (tf 25 18) rfl rfl (any_of HT_.out (by kernel_rfl)) (fun _ _ _ h => h) (Or.inl ⟨by rfl, ?_⟩) ?_ ?_
              rotate_left
              · intro w'
                go_simp
                with_reducible rfl
              rotate_left
              · simp only [Act.put, List.setIfInBounds_toArray, List.set_cons_zero, List.set_cons_succ, i64_w, i32_w]
                rfl
              refine pure_ (i := 25) (N := some 67) (v := ?_) (a' := ?_) (tf 26 17) rfl rfl (any_of HT_.out (by kernel_rfl)) (fun _ _ _ h => h) (Or.inl ⟨by rfl, ?_⟩) ?_ ?_
              rotate_left
              · intro w'
                go_simp
                with_reducible rfl
              rotate_left
              · simp only [Act.put, List.setIfInBounds_toArray, List.set_cons_zero, List.set_cons_succ, i64_w, i32_w]
                rfl
              refine pure_ (i := 26) (N := some 68) (v := ?_) (a' := ?_) (tf 27 16) rfl rfl (any_of HT_.out (by kernel_rfl)) (fun _ _ _ h => h) (Or.inl ⟨by rfl, ?_⟩) ?_ ?_
              rotate_left
              · intro w'
                go_simp
                with_reducible rfl
              rotate_left
              · simp only [Act.put, List.setIfInBounds_toArray, List.set_cons_zero, List.set_cons_succ, i64_w, i32_w]
                rfl
              refine pure_ (i := 27) (N := some 69) (v := ?_) (a' := ?_) (tf 28 15) rfl rfl (any_of HT_.out (by kernel_rfl)) (fun _ _ _ h => h) (Or.inl ⟨by rfl, ?_⟩) ?_ ?_
              rotate_left
              · intro w'
                go_simp
                with_reducible rfl
              rotate_left
              · simp only [Act.put, List.setIfInBounds_toArray, List.set_cons_zero, List.set_cons_succ, i64_w, i32_w]
                rfl
              refine pure_ (i := 28) (N := some 70) (v := undef) (a' := ?_) (tf 29 14) rfl rfl (any_of HT_.out (by kernel_rfl)) (fun _ _ _ h => h) (Or.inr ⟨by rfl, rfl⟩) ?_ ?_
              rotate_left
              · simp only [Act.put, List.setIfInBounds_toArray, List.set_cons_zero, List.set_cons_succ, i64_w, i32_w]
                rfl
              refine pure_ (i := 29) (N := some 71) (v := undef) (a' := ?_) (tf 30 13) rfl rfl (any_of HT_.out (by kernel_rfl)) (fun _ _ _ h => h) (Or.inr ⟨by rfl, rfl⟩) ?_ ?_
              rotate_left
              · simp only [Act.put, List.setIfInBounds_toArray, List.set_cons_zero, List.set_cons_succ, i64_w, i32_w]
                rfl
              refine pure_ (i := 30) (N := some 72) (v := undef) (a' := ?_) (tf 31 12) rfl rfl (any_of HT_.out (by kernel_rfl)) (fun _ _ _ h => h) (Or.inr ⟨by rfl, rfl⟩) ?_ ?_
              rotate_left
              · simp only [Act.put, List.setIfInBounds_toArray, List.set_cons_zero, List.set_cons_succ, i64_w, i32_w]
                rfl
              refine pure_ (i := 31) (N := some 73) (v := undef) (a' := ?_) (tf 32 11) rfl rfl (any_of HT_.out (by kernel_rfl)) (fun _ _ _ h => h) (Or.inr ⟨by rfl, rfl⟩) ?_ ?_
              rotate_left
              · simp only [Act.put, List.setIfInBounds_toArray, List.set_cons_zero, List.set_cons_succ, i64_w, i32_w]
                rfl
              refine pure_ (i := 32) (N := some 74) (v := undef) (a' := ?_) (tf 33 10) rfl rfl (any_of HT_.out (by kernel_rfl)) (fun _ _ _ h => h) (Or.inr ⟨by rfl, rfl⟩) ?_ ?_
              rotate_left
              · simp only [Act.put, List.setIfInBounds_toArray, List.set_cons_zero, List.set_cons_succ, i64_w, i32_w]
                rfl
              refine pure_ (i := 33) (N := some 75) (v := undef) (a' := ?_) (tf 34 9) rfl rfl (any_of HT_.out (by kernel_rfl)) (fun _ _ _ h => h) (Or.inr ⟨by rfl, rfl⟩) ?_ ?_
              rotate_left
              · simp only [Act.put, List.setIfInBounds_toArray, List.set_cons_zero, List.set_cons_succ, i64_w, i32_w]
                rfl
              refine pure_ (i := 34) (N := some 76) (v := undef) (a' := ?_) (tf 35 8) rfl rfl (any_of HT_.out (by kernel_rfl)) (fun _ _ _ h => h) (Or.inr ⟨by rfl, rfl⟩) ?_ ?_
              rotate_left
              · simp only [Act.put, List.setIfInBounds_toArray, List.set_cons_zero, List.set_cons_succ, i64_w, i32_w]
                rfl
              refine pure_ (i := 35) (N := some 77) (v := undef) (a' := ?_) (tf 36 7) rfl rfl (any_of HT_.out (by kernel_rfl)) (fun _ _ _ h => h) (Or.inr ⟨by rfl, rfl⟩) ?_ ?_
              rotate_left
              · simp only [Act.put, List.setIfInBounds_toArray, List.set_cons_zero, List.set_cons_succ, i64_w, i32_w]
                rfl
              refine pure_ (i := 36) (N := some 78) (v := ?_) (a' := ?_) (tf 37 6) rfl rfl (any_of HT_.out (by kernel_rfl)) (fun _ _ _ h => h) (Or.inl ⟨by rfl, ?_⟩) ?_ ?_
              rotate_left
              · intro w'
                go_simp
                with_reducible rfl
              rotate_left
              · simp only [Act.put, List.setIfInBounds_toArray, List.set_cons_zero, List.set_cons_succ, i64_w, i32_w]
                rfl
              refine pure_ (i := 37) (N := some 79) (v := ?_) (a' := ?_) (tf 38 5) rfl rfl (any_of HT_.out (by kernel_rfl)) (fun _ _ _ h => h) (Or.inl ⟨by rfl, ?_⟩) ?_ ?_
              rotate_left
              · intro w'
                go_simp
                with_reducible rfl
              rotate_left
              · simp only [Act.put, List.setIfInBounds_toArray, List.set_cons_zero, List.set_cons_succ, i64_w, i32_w]
                rfl
              refine pure_ (i := 38) (N := some 80) (v := undef) (a' := ?_) (tf 39 4) rfl rfl (any_of HT_.out (by kernel_rfl)) (fun _ _ _ h => h) (Or.inr ⟨by rfl, rfl⟩) ?_ ?_
              rotate_left
              · simp only [Act.put, List.setIfInBounds_toArray, List.set_cons_zero, List.set_cons_succ, i64_w, i32_w]
                rfl
              refine pure_ (i := 39) (N := some 81) (v := undef) (a' := ?_) (tf 40 3) rfl rfl (any_of HT_.out (by kernel_rfl)) (fun _ _ _ h => h) (Or.inr ⟨by rfl, rfl⟩) ?_ ?_
              rotate_left
              · simp only [Act.put, List.setIfInBounds_toArray, List.set_cons_zero, List.set_cons_succ, i64_w, i32_w]
                rfl
              refine pure_ (i := 40) (N := some 82) (v := undef) (a' := ?_) (tf 41 2) rfl rfl (any_of HT_.out (by kernel_rfl)) (fun _ _ _ h => h) (Or.inr ⟨by rfl, rfl⟩) ?_ ?_
              rotate_left
              · simp only [Act.put, List.setIfInBounds_toArray, List.set_cons_zero, List.set_cons_succ, i64_w, i32_w]
                rfl
              refine pure_ (i := 41) (N := some 83) (v := undef) (a' := ?_) (tf 42 1) rfl rfl (any_of HT_.out (by kernel_rfl)) (fun _ _ _ h => h) (Or.inr ⟨by rfl, rfl⟩) ?_ ?_
              rotate_left
              · simp only [Act.put, List.setIfInBounds_toArray, List.set_cons_zero, List.set_cons_succ, i64_w, i32_w]
                rfl
              refine pure_ (i := 42) (N := some 84) (v := ?_) (a' := ?_) (tf 43 0) rfl rfl (any_of HT_.out (by kernel_rfl)) (fun _ _ _ h => h) (Or.inl ⟨by rfl, ?_⟩) ?_ ?_
              rotate_left
              · intro w'
                go_simp
                with_reducible rfl
              rotate_left
              · simp only [Act.put, List.setIfInBounds_toArray, List.set_cons_zero, List.set_cons_succ, i64_w, i32_w]
                rfl
              refine done_ (done_of HT_.out (by kernel_rfl)) ?_
              try go_wp2
              go_meet
              case rel => exact ⟨_, (true), (by first | rfl | (simp; done) | (simp [*]; done)), H', ⟨by first | omega | exact Nat.le_refl _⟩, ⟨by (with_reducible repeat (first | apply rA | apply rN | apply rD)); exact Kd.R_mono HO250.out (fun _ hk => trivial)⟩, ⟨by (with_reducible repeat (first | apply Kd.N_alloc | apply Kd.N_drewN | apply Kd.N_drew)); exact Kd.N_mono HO229.out (fun _ hk => ⟨hk.1.2, ⟨hk.1.1.1.1.2, ⟨hk.1.1.1.2, ⟨hk.1.1.1.1.1.1, ⟨hk.1.1.1.1.1.2, hk.1.1.2⟩⟩⟩⟩⟩)⟩, ⟨by (with_reducible repeat (first | apply Kd.N_alloc | apply Kd.N_drewN | apply Kd.N_drew)); exact Kd.N_mono HO237.out (fun _ hk => ⟨hk.1.2, ⟨hk.1.1.1.1.1, ⟨hk.1.1.1.2, ⟨hk.1.1.1.1.2.1, ⟨hk.1.1.1.1.2.2, hk.1.1.2⟩⟩⟩⟩⟩)⟩, ⟨by (with_reducible repeat (first | apply rA | apply rN | apply rD)); exact HO245.out⟩, ⟨by (with_reducible repeat (first | apply bN | apply bD | apply bA)); exact BK220.out⟩, ⟨by (with_reducible repeat (first | apply bN | apply bD | apply bA)); exact BK221.out⟩, ⟨by (with_reducible repeat (first | apply bN | apply bD | apply bA)); exact BK246.out⟩, ⟨by repeat (first | (with_reducible first | exact HB.out | apply lA | apply lN | apply lD | refine below_set ?_ GE220.out | refine below_set ?_ GE221.out | refine below_set ?_ GE246.out) | exact HB.out)⟩⟩
            · rw [if_neg c53] at H
              have c53b0 : (t255 != t257) = false := by simpa using c53
              (try (have c53b1 : decide (t255 = t257) = true := by simpa using c53))
              (try (have c53b2 : (t255 == t257) = true := by simpa using c53))
              clear c53
              replace H := Option.bind_eq_some_iff.mp H
              obtain ⟨t261, A580, H⟩ := H
              try dsimp only at H
              have A58 := Aside0.mk A580
              clear A580
              replace H := Option.bind_eq_some_iff.mp H
              obtain ⟨⟨t262, t263, t264, t265, t266, t267⟩, A590, H⟩ := H
              try dsimp only at H
              have A59 := Aside0.mk A590
              clear A590
              replace H := Option.bind_eq_some_iff.mp H
              obtain ⟨t270, A600, H⟩ := H
              try dsimp only at H
              have A60 := Aside0.mk A600
              clear A600
              by_cases c61 : (t261 != t270) = true
              · rw [if_pos c61] at H
                have c61b0 : (t261 != t270) = true := c61
                (try (have c61b1 : decide (t261 = t270) = false := by simpa using c61))
                (try (have c61b2 : (t261 == t270) = false := by simpa using c61))
                (try (have c61b3 : ¬ (t261 = t270) := by simpa using c61))
                clear c61
                have H' := Aside0.mk H
                clear H
                try go_wp2
                have n0_ := a0 (Kd.N_drew HO229.out)
                have n1_ := a0 (Kd.N_drew HO237.out)
                have n2_ := a0 (Kd.R_drew HO245.out)
                have n3_ := a0 (Kd.R_drew HO250.out)
                have n4_ := a0 (Kd.R_drew HO254.out)
                have n5_ := a0 (blk_drew BK220.out)
                have n6_ := a0 (blk_drew BK221.out)
                have n7_ := a0 (blk_drew BK246.out)
                have n8_ := a0 (below_drew1 HB.out)
                clear HO229
                clear HO237
                clear HO245
                clear HO250
                clear HO254
                clear BK220
                clear BK221
                clear BK246
                clear HB
                have HO229 := n0_
                have HO237 := n1_
                have HO245 := n2_
                have HO250 := n3_
                have HO254 := n4_
                have BK220 := n5_
                have BK221 := n6_
                have BK246 := n7_
                have HB := n8_
                clear n0_ n1_ n2_ n3_ n4_ n5_ n6_ n7_ n8_
                refine start_ (n := 43) (S := fun w' => w'.cell? ⟨gb220, 0, none⟩ = some (.int .u64 t222) ∧ w'.cell? ⟨gb220, 1, none⟩ = some (.int .u64 t223) ∧ w'.cell? ⟨gb220, 2, none⟩ = some (.int .i64 t224) ∧ w'.cell? ⟨gb220, 3, none⟩ = some (.int .i64 t225) ∧ w'.cell? ⟨gb220, 4, none⟩ = some (.int .u64 t226) ∧ w'.cell? ⟨gb220, 5, none⟩ = some (.slice Ao22 t227.length co22) ∧ w'.cell? ⟨gb246, 0, none⟩ = some (.int .u64 t238) ∧ w'.cell? ⟨gb246, 1, none⟩ = some (.int .u64 t239) ∧ w'.cell? ⟨gb246, 2, none⟩ = some (.int .i64 t240) ∧ w'.cell? ⟨gb246, 3, none⟩ = some (.int .i64 t241) ∧ w'.cell? ⟨gb246, 4, none⟩ = some (.int .u64 t242) ∧ w'.cell? ⟨gb246, 5, none⟩ = some (.slice Ao38 t243.length co38) ∧ w'.cell? ⟨gb221, 0, none⟩ = some (.int .u64 t230) ∧ w'.cell? ⟨gb221, 1, none⟩ = some (.int .u64 t231) ∧ w'.cell? ⟨gb221, 2, none⟩ = some (.int .i64 t232) ∧ w'.cell? ⟨gb221, 3, none⟩ = some (.int .i64 t233) ∧ w'.cell? ⟨gb221, 4, none⟩ = some (.int .u64 t234) ∧ w'.cell? ⟨gb221, 5, none⟩ = some (.slice Ao29 t235.length co29) ∧ (convert 27 9 v253).run Try.prog w' = .ok (.string (strOfNums t252)) w') (ds := []) (tf 0 43) (by kernel_rfl) rfl rfl ⟨(blk_cell BK220.out 0).trans rfl, (blk_cell BK220.out 1).trans rfl, (blk_cell BK220.out 2).trans rfl, (blk_cell BK220.out 3).trans rfl, (blk_cell BK220.out 4).trans rfl, (blk_cell BK220.out 5).trans rfl, (blk_cell BK246.out 0).trans rfl, (blk_cell BK246.out 1).trans rfl, (blk_cell BK246.out 2).trans rfl, (blk_cell BK246.out 3).trans rfl, (blk_cell BK246.out 4).trans rfl, (blk_cell BK246.out 5).trans rfl, (blk_cell BK221.out 0).trans rfl, (blk_cell BK221.out 1).trans rfl, (blk_cell BK221.out 2).trans rfl, (blk_cell BK221.out 3).trans rfl, (blk_cell BK221.out 4).trans rfl, (blk_cell BK221.out 5).trans rfl, (own_string (P := Try.prog) Try.underlying27 Try.underlying5 Try.underlying9 (Kd.own_of_R HO254.out))⟩ (fun hHeld => ?_); refine with_tabW prolepsislaw14_KeygramTells.tab7 prolepsislaw14_KeygramTells.bits7 (fun HT_ HW_ => ?_)
                generalize w45.drew = w62 at HO229 HO237 HO245 HO250 HO254 BK220 BK221 BK246 HB hHeld ⊢
                refine pure_ (i := 2) (N := some 44) (v := ?_) (a' := ?_) #[false, false, true, false, false, false, false, false, false, false, false, false, false, false, false, false, false, false, false, false, false, false, false, false, false, false, false, false, false, false, false, false, false, false, false, false, false, false, false, false, false, false, false] rfl rfl (any_of HT_.out (by kernel_rfl)) (fun _ _ _ h => h) (Or.inl ⟨by rfl, ?_⟩) ?_ ?_
                rotate_left
                · intro w'
                  go_simp
                  with_reducible rfl
                rotate_left
                · simp only [Act.put, List.setIfInBounds_toArray, List.set_cons_zero, List.set_cons_succ, i64_w, i32_w]
                  rfl
                refine take_ (i := 0) (N := some 42) (v := ?_) (a' := ?_) #[true, false, true, false, false, false, false, false, false, false, false, false, false, false, false, false, false, false, false, false, false, false, false, false, false, false, false, false, false, false, false, false, false, false, false, false, false, false, false, false, false, false, false] rfl rfl (take_ofW HT_.out HW_.out (by kernel_rfl)) (fun _ _ _ h => h) (Or.inl ⟨by rfl, ?_⟩) hHeld ?_ ?_
                rotate_left
                · rintro w' ⟨s0, s1, s2, s3, s4, s5, s6, s7, s8, s9, s10, s11, s12, s13, s14, s15, s16, s17, s18⟩
                  go_simp
                  with_reducible rfl
                rotate_left
                · simp only [Act.put, List.setIfInBounds_toArray, List.set_cons_zero, List.set_cons_succ, i64_w, i32_w]
                  rfl
                refine one_ (i := 1) (N := some 43) (tf 3 40) rfl rfl (one_of HT_.out (by kernel_rfl)) (by decide) (fun K hK => ?_)
                refine goes_ Try.func40 (by kernel_rfl) rfl #[.agg #[.int .u64 t222, .int .u64 t223, .int .i64 t224, .int .i64 t225, .int .u64 t226, .slice Ao22 t227.length co22]] (by rfl) rfl rfl (by (try simp only [List.map_toArray, List.map_cons, List.map_nil]); first | done | rfl | (simp only [List.length_drop, List.length_take]; rfl)) ?_
                with_reducible refine (keygram_Check.calls k t222 t223 t224 t225 t226 _ _ t227 t258 _ ?side1 ?side2 A46.out).mono ?_
                (case side1 => repeat (first | exact (Kd.N_reads' HO229.out).2.2 | (with_reducible refine Kd.C_alloc ?_ _) | (with_reducible refine Kd.C_drewN ?_ _) | (with_reducible refine Kd.C_drew ?_)))
                (case side2 => exact (Kd.N_reads' HO229.out).2.1)
                rintro e w63 ⟨rfl, hb⟩
                refine ⟨_, rfl, ?_⟩
                have n0_ := a0 (Kd.N_below (by (with_reducible repeat (first | apply Kd.N_alloc | apply Kd.N_drewN | apply Kd.N_drew)); exact HO229.out) hb)
                have n1_ := a0 (Kd.N_below (by (with_reducible repeat (first | apply Kd.N_alloc | apply Kd.N_drewN | apply Kd.N_drew)); exact HO237.out) hb)
                have n2_ := a0 (Kd.R_below (by (with_reducible repeat (first | apply rA | apply rN | apply rD)); exact HO245.out) hb)
                have n3_ := a0 (Kd.R_below (by (with_reducible repeat (first | apply rA | apply rN | apply rD)); exact HO250.out) hb)
                have n4_ := a0 (Kd.R_below (by (with_reducible repeat (first | apply rA | apply rN | apply rD)); exact HO254.out) hb)
                have n5_ := a0 (blk_below (g := gb220) (o := .cells #[.int .u64 t222, .int .u64 t223, .int .i64 t224, .int .i64 t225, .int .u64 t226, .slice Ao22 t227.length co22] 66 (0, 0)) (by (with_reducible repeat (first | apply bN | apply bD | apply bA)); exact BK220.out) hb)
                have n6_ := a0 (blk_below (g := gb221) (o := .cells #[.int .u64 t230, .int .u64 t231, .int .i64 t232, .int .i64 t233, .int .u64 t234, .slice Ao29 t235.length co29] 66 (0, 0)) (by (with_reducible repeat (first | apply bN | apply bD | apply bA)); exact BK221.out) hb)
                have n7_ := a0 (blk_below (g := gb246) (o := .cells #[.int .u64 t238, .int .u64 t239, .int .i64 t240, .int .i64 t241, .int .u64 t242, .slice Ao38 t243.length co38] 71 (0, 0)) (by (with_reducible repeat (first | apply bN | apply bD | apply bA)); exact BK246.out) hb)
                have n8_ := a0 (below_step (by repeat (first | (with_reducible first | exact HB.out | apply lA | apply lN | apply lD | refine below_set ?_ GE220.out | refine below_set ?_ GE221.out | refine below_set ?_ GE246.out) | exact HB.out)) hb)
                clear HO229
                clear HO237
                clear HO245
                clear HO250
                clear HO254
                clear BK220
                clear BK221
                clear BK246
                clear HB
                have HO229 := n0_
                have HO237 := n1_
                have HO245 := n2_
                have HO250 := n3_
                have HO254 := n4_
                have BK220 := n5_
                have BK221 := n6_
                have BK246 := n7_
                have HB := n8_
                clear n0_ n1_ n2_ n3_ n4_ n5_ n6_ n7_ n8_
                (try clear hb)
                (try clear hb2)
                (try clear hk)
                (try clear hi)
                refine hK.out _ _ ⟨(blk_cell BK220.out 0).trans rfl, (blk_cell BK220.out 1).trans rfl, (blk_cell BK220.out 2).trans rfl, (blk_cell BK220.out 3).trans rfl, (blk_cell BK220.out 4).trans rfl, (blk_cell BK220.out 5).trans rfl, (blk_cell BK246.out 0).trans rfl, (blk_cell BK246.out 1).trans rfl, (blk_cell BK246.out 2).trans rfl, (blk_cell BK246.out 3).trans rfl, (blk_cell BK246.out 4).trans rfl, (blk_cell BK246.out 5).trans rfl, (blk_cell BK221.out 0).trans rfl, (blk_cell BK221.out 1).trans rfl, (blk_cell BK221.out 2).trans rfl, (blk_cell BK221.out 3).trans rfl, (blk_cell BK221.out 4).trans rfl, (blk_cell BK221.out 5).trans rfl, (own_string (P := Try.prog) Try.underlying27 Try.underlying5 Try.underlying9 (Kd.own_of_R HO254.out))⟩ (fun hHeld => ?_)
                clear hK K
                refine norm_ (a' := ?_) ?_ ?_
                rotate_left
                · show Act.put _ (some 43) _ = _
                  simp only [Act.put, List.setIfInBounds_toArray, List.set_cons_zero, List.set_cons_succ, i64_w, i32_w]
                  rfl
                refine pure_ (i := 3) (N := some 45) (v := ?_) (a' := ?_) (tf 4 39) rfl rfl (any_of HT_.out (by kernel_rfl)) (fun _ _ _ h => h) (Or.inl ⟨by rfl, ?_⟩) ?_ ?_
                rotate_left
                · intro w'
                  go_simp
                  with_reducible rfl
                rotate_left
                · simp only [Act.put, List.setIfInBounds_toArray, List.set_cons_zero, List.set_cons_succ, i64_w, i32_w]
                  rfl
                refine pure_ (i := 4) (N := some 46) (v := ?_) (a' := ?_) (tf 5 38) rfl rfl (any_of HT_.out (by kernel_rfl)) (fun _ _ _ h => h) (Or.inl ⟨by rfl, ?_⟩) ?_ ?_
                rotate_left
                · intro w'
                  go_simp
                  with_reducible rfl
                rotate_left
                · simp only [Act.put, List.setIfInBounds_toArray, List.set_cons_zero, List.set_cons_succ, i64_w, i32_w]
                  rfl
                refine pure_ (i := 5) (N := some 47) (v := ?_) (a' := ?_) (tf 6 37) rfl rfl (any_of HT_.out (by kernel_rfl)) (fun _ _ _ h => h) (Or.inl ⟨by rfl, ?_⟩) ?_ ?_
                rotate_left
                · intro w'
                  go_simp
                  with_reducible rfl
                rotate_left
                · simp only [Act.put, List.setIfInBounds_toArray, List.set_cons_zero, List.set_cons_succ, i64_w, i32_w]
                  rfl
                refine pure_ (i := 6) (N := some 48) (v := ?_) (a' := ?_) (tf 7 36) rfl rfl (any_of HT_.out (by kernel_rfl)) (fun _ _ _ h => h) (Or.inl ⟨by rfl, ?_⟩) ?_ ?_
                rotate_left
                · intro w'
                  go_simp
                  with_reducible rfl
                rotate_left
                · simp only [Act.put, List.setIfInBounds_toArray, List.set_cons_zero, List.set_cons_succ, i64_w, i32_w]
                  rfl
                refine pure_ (i := 7) (N := some 49) (v := ?_) (a' := ?_) (tf 8 35) rfl rfl (any_of HT_.out (by kernel_rfl)) (fun _ _ _ h => h) (Or.inl ⟨by rfl, ?_⟩) ?_ ?_
                rotate_left
                · intro w'
                  go_simp
                  with_reducible rfl
                rotate_left
                · simp only [Act.put, List.setIfInBounds_toArray, List.set_cons_zero, List.set_cons_succ, i64_w, i32_w]
                  rfl
                refine pure_ (i := 8) (N := some 50) (v := ?_) (a' := ?_) (tf 9 34) rfl rfl (any_of HT_.out (by kernel_rfl)) (fun _ _ _ h => h) (Or.inl ⟨by rfl, ?_⟩) ?_ ?_
                rotate_left
                · intro w'
                  go_simp
                  with_reducible rfl
                rotate_left
                · simp only [Act.put, List.setIfInBounds_toArray, List.set_cons_zero, List.set_cons_succ, i64_w, i32_w]
                  rfl
                refine pure_ (i := 9) (N := some 51) (v := ?_) (a' := ?_) (tf 10 33) rfl rfl (any_of HT_.out (by kernel_rfl)) (fun _ _ _ h => h) (Or.inl ⟨by rfl, ?_⟩) ?_ ?_
                rotate_left
                · intro w'
                  go_simp
                  with_reducible rfl
                rotate_left
                · simp only [Act.put, List.setIfInBounds_toArray, List.set_cons_zero, List.set_cons_succ, i64_w, i32_w]
                  rfl
                refine take_ (i := 10) (N := some 52) (v := ?_) (a' := ?_) (tf 11 32) rfl rfl (take_ofW HT_.out HW_.out (by kernel_rfl)) (fun _ _ _ h => h) (Or.inl ⟨by rfl, ?_⟩) hHeld ?_ ?_
                rotate_left
                · rintro w' ⟨s0, s1, s2, s3, s4, s5, s6, s7, s8, s9, s10, s11, s12, s13, s14, s15, s16, s17, s18⟩
                  go_simp
                  with_reducible rfl
                rotate_left
                · simp only [Act.put, List.setIfInBounds_toArray, List.set_cons_zero, List.set_cons_succ, i64_w, i32_w]
                  rfl
                refine take_ (i := 12) (N := some 54) (v := ?_) (a' := ?_) #[true, true, true, true, true, true, true, true, true, true, true, false, true, false, false, false, false, false, false, false, false, false, false, false, false, false, false, false, false, false, false, false, false, false, false, false, false, false, false, false, false, false, false] rfl rfl (take_ofW HT_.out HW_.out (by kernel_rfl)) (fun _ _ _ h => h) (Or.inl ⟨by rfl, ?_⟩) hHeld ?_ ?_
                rotate_left
                · rintro w' ⟨s0, s1, s2, s3, s4, s5, s6, s7, s8, s9, s10, s11, s12, s13, s14, s15, s16, s17, s18⟩
                  go_simp
                  with_reducible rfl
                rotate_left
                · simp only [Act.put, List.setIfInBounds_toArray, List.set_cons_zero, List.set_cons_succ, i64_w, i32_w]
                  rfl
                refine one_ (i := 11) (N := some 53) (tf 13 30) rfl rfl (one_of HT_.out (by kernel_rfl)) (by decide) (fun K hK => ?_)
                refine goes_ Try.func43 (by kernel_rfl) rfl #[.agg #[.int .u64 t222, .int .u64 t223, .int .i64 t224, .int .i64 t225, .int .u64 t226, .slice Ao22 t227.length co22]] (by rfl) rfl rfl (by (try simp only [List.map_toArray, List.map_cons, List.map_nil]); first | done | rfl | (simp only [List.length_drop, List.length_take]; rfl)) ?_
                with_reducible refine (keygram_Last.calls k t222 t223 t224 t225 t226 _ _ t227 t259 _ ?side1 ?side2 A49.out).mono ?_
                (case side1 => repeat (first | exact (Kd.N_reads' HO229.out).2.2 | (with_reducible refine Kd.C_alloc ?_ _) | (with_reducible refine Kd.C_drewN ?_ _) | (with_reducible refine Kd.C_drew ?_)))
                (case side2 => exact (Kd.N_reads' HO229.out).2.1)
                rintro e w64 ⟨rfl, hb⟩
                refine ⟨_, rfl, ?_⟩
                have n0_ := a0 (Kd.N_below (by (with_reducible repeat (first | apply Kd.N_alloc | apply Kd.N_drewN | apply Kd.N_drew)); exact HO229.out) hb)
                have n1_ := a0 (Kd.N_below (by (with_reducible repeat (first | apply Kd.N_alloc | apply Kd.N_drewN | apply Kd.N_drew)); exact HO237.out) hb)
                have n2_ := a0 (Kd.R_below (by (with_reducible repeat (first | apply rA | apply rN | apply rD)); exact HO245.out) hb)
                have n3_ := a0 (Kd.R_below (by (with_reducible repeat (first | apply rA | apply rN | apply rD)); exact HO250.out) hb)
                have n4_ := a0 (Kd.R_below (by (with_reducible repeat (first | apply rA | apply rN | apply rD)); exact HO254.out) hb)
                have n5_ := a0 (blk_below (g := gb220) (o := .cells #[.int .u64 t222, .int .u64 t223, .int .i64 t224, .int .i64 t225, .int .u64 t226, .slice Ao22 t227.length co22] 66 (0, 0)) (by (with_reducible repeat (first | apply bN | apply bD | apply bA)); exact BK220.out) hb)
                have n6_ := a0 (blk_below (g := gb221) (o := .cells #[.int .u64 t230, .int .u64 t231, .int .i64 t232, .int .i64 t233, .int .u64 t234, .slice Ao29 t235.length co29] 66 (0, 0)) (by (with_reducible repeat (first | apply bN | apply bD | apply bA)); exact BK221.out) hb)
                have n7_ := a0 (blk_below (g := gb246) (o := .cells #[.int .u64 t238, .int .u64 t239, .int .i64 t240, .int .i64 t241, .int .u64 t242, .slice Ao38 t243.length co38] 71 (0, 0)) (by (with_reducible repeat (first | apply bN | apply bD | apply bA)); exact BK246.out) hb)
                have n8_ := a0 (below_step (by repeat (first | (with_reducible first | exact HB.out | apply lA | apply lN | apply lD | refine below_set ?_ GE220.out | refine below_set ?_ GE221.out | refine below_set ?_ GE246.out) | exact HB.out)) hb)
                clear HO229
                clear HO237
                clear HO245
                clear HO250
                clear HO254
                clear BK220
                clear BK221
                clear BK246
                clear HB
                have HO229 := n0_
                have HO237 := n1_
                have HO245 := n2_
                have HO250 := n3_
                have HO254 := n4_
                have BK220 := n5_
                have BK221 := n6_
                have BK246 := n7_
                have HB := n8_
                clear n0_ n1_ n2_ n3_ n4_ n5_ n6_ n7_ n8_
                (try clear hb)
                (try clear hb2)
                (try clear hk)
                (try clear hi)
                refine hK.out _ _ ⟨(blk_cell BK220.out 0).trans rfl, (blk_cell BK220.out 1).trans rfl, (blk_cell BK220.out 2).trans rfl, (blk_cell BK220.out 3).trans rfl, (blk_cell BK220.out 4).trans rfl, (blk_cell BK220.out 5).trans rfl, (blk_cell BK246.out 0).trans rfl, (blk_cell BK246.out 1).trans rfl, (blk_cell BK246.out 2).trans rfl, (blk_cell BK246.out 3).trans rfl, (blk_cell BK246.out 4).trans rfl, (blk_cell BK246.out 5).trans rfl, (blk_cell BK221.out 0).trans rfl, (blk_cell BK221.out 1).trans rfl, (blk_cell BK221.out 2).trans rfl, (blk_cell BK221.out 3).trans rfl, (blk_cell BK221.out 4).trans rfl, (blk_cell BK221.out 5).trans rfl, (own_string (P := Try.prog) Try.underlying27 Try.underlying5 Try.underlying9 (Kd.own_of_R HO254.out))⟩ (fun hHeld => ?_)
                clear hK K
                refine norm_ (a' := ?_) ?_ ?_
                rotate_left
                · show Act.put _ (some 53) _ = _
                  simp only [Act.put, List.setIfInBounds_toArray, List.set_cons_zero, List.set_cons_succ, i64_w, i32_w]
                  rfl
                refine one_ (i := 13) (N := some 55) (tf 14 29) rfl rfl (one_of HT_.out (by kernel_rfl)) (by decide) (fun K hK => ?_)
                refine goes_ Try.func44 (by kernel_rfl) rfl #[.agg #[.int .u64 t238, .int .u64 t239, .int .i64 t240, .int .i64 t241, .int .u64 t242, .slice Ao38 t243.length co38]] (by rfl) rfl rfl (by (try simp only [List.map_toArray, List.map_cons, List.map_nil]); first | done | rfl | (simp only [List.length_drop, List.length_take]; rfl)) ?_
                with_reducible refine (prolepsisref14_Last.calls k t238 t239 t240 t241 t242 _ _ t243 t260 _ ?side1 ?side2 A50.out).mono ?_
                (case side1 => repeat (first | exact (Kd.R_reads' HO245.out).2.2 | (with_reducible refine Kd.C_alloc ?_ _) | (with_reducible refine Kd.C_drewN ?_ _) | (with_reducible refine Kd.C_drew ?_)))
                (case side2 => exact (Kd.R_reads' HO245.out).2.1)
                rintro e w65 ⟨rfl, hb⟩
                refine ⟨_, rfl, ?_⟩
                have n0_ := a0 (Kd.N_below (by (with_reducible repeat (first | apply Kd.N_alloc | apply Kd.N_drewN | apply Kd.N_drew)); exact HO229.out) hb)
                have n1_ := a0 (Kd.N_below (by (with_reducible repeat (first | apply Kd.N_alloc | apply Kd.N_drewN | apply Kd.N_drew)); exact HO237.out) hb)
                have n2_ := a0 (Kd.R_below (by (with_reducible repeat (first | apply rA | apply rN | apply rD)); exact HO245.out) hb)
                have n3_ := a0 (Kd.R_below (by (with_reducible repeat (first | apply rA | apply rN | apply rD)); exact HO250.out) hb)
                have n4_ := a0 (Kd.R_below (by (with_reducible repeat (first | apply rA | apply rN | apply rD)); exact HO254.out) hb)
                have n5_ := a0 (blk_below (g := gb220) (o := .cells #[.int .u64 t222, .int .u64 t223, .int .i64 t224, .int .i64 t225, .int .u64 t226, .slice Ao22 t227.length co22] 66 (0, 0)) (by (with_reducible repeat (first | apply bN | apply bD | apply bA)); exact BK220.out) hb)
                have n6_ := a0 (blk_below (g := gb221) (o := .cells #[.int .u64 t230, .int .u64 t231, .int .i64 t232, .int .i64 t233, .int .u64 t234, .slice Ao29 t235.length co29] 66 (0, 0)) (by (with_reducible repeat (first | apply bN | apply bD | apply bA)); exact BK221.out) hb)
                have n7_ := a0 (blk_below (g := gb246) (o := .cells #[.int .u64 t238, .int .u64 t239, .int .i64 t240, .int .i64 t241, .int .u64 t242, .slice Ao38 t243.length co38] 71 (0, 0)) (by (with_reducible repeat (first | apply bN | apply bD | apply bA)); exact BK246.out) hb)
                have n8_ := a0 (below_step (by repeat (first | (with_reducible first | exact HB.out | apply lA | apply lN | apply lD | refine below_set ?_ GE220.out | refine below_set ?_ GE221.out | refine below_set ?_ GE246.out) | exact HB.out)) hb)
                clear HO229
                clear HO237
                clear HO245
                clear HO250
                clear HO254
                clear BK220
                clear BK221
                clear BK246
                clear HB
                have HO229 := n0_
                have HO237 := n1_
                have HO245 := n2_
                have HO250 := n3_
                have HO254 := n4_
                have BK220 := n5_
                have BK221 := n6_
                have BK246 := n7_
                have HB := n8_
                clear n0_ n1_ n2_ n3_ n4_ n5_ n6_ n7_ n8_
                (try clear hb)
                (try clear hb2)
                (try clear hk)
                (try clear hi)
                refine hK.out _ _ ⟨(blk_cell BK220.out 0).trans rfl, (blk_cell BK220.out 1).trans rfl, (blk_cell BK220.out 2).trans rfl, (blk_cell BK220.out 3).trans rfl, (blk_cell BK220.out 4).trans rfl, (blk_cell BK220.out 5).trans rfl, (blk_cell BK246.out 0).trans rfl, (blk_cell BK246.out 1).trans rfl, (blk_cell BK246.out 2).trans rfl, (blk_cell BK246.out 3).trans rfl, (blk_cell BK246.out 4).trans rfl, (blk_cell BK246.out 5).trans rfl, (blk_cell BK221.out 0).trans rfl, (blk_cell BK221.out 1).trans rfl, (blk_cell BK221.out 2).trans rfl, (blk_cell BK221.out 3).trans rfl, (blk_cell BK221.out 4).trans rfl, (blk_cell BK221.out 5).trans rfl, (own_string (P := Try.prog) Try.underlying27 Try.underlying5 Try.underlying9 (Kd.own_of_R HO254.out))⟩ (fun hHeld => ?_)
                clear hK K
                refine norm_ (a' := ?_) ?_ ?_
                rotate_left
                · show Act.put _ (some 55) _ = _
                  simp only [Act.put, List.setIfInBounds_toArray, List.set_cons_zero, List.set_cons_succ, i64_w, i32_w]
                  rfl
                refine pure_ (i := 14) (N := some 56) (v := ?_) (a' := ?_) (tf 15 28) rfl rfl (any_of HT_.out (by kernel_rfl)) (fun _ _ _ h => h) (Or.inl ⟨by rfl, ?_⟩) ?_ ?_
                rotate_left
                · intro w'
                  go_simp
                  with_reducible rfl
                rotate_left
                · simp only [Act.put, List.setIfInBounds_toArray, List.set_cons_zero, List.set_cons_succ, i64_w, i32_w]
                  rfl
                refine pure_ (i := 15) (N := some 57) (v := ?_) (a' := ?_) (tf 16 27) rfl rfl (any_of HT_.out (by kernel_rfl)) (fun _ _ _ h => h) (Or.inl ⟨by rfl, ?_⟩) ?_ ?_
                rotate_left
                · intro w'
                  go_simp
                  with_reducible rfl
                rotate_left
                · simp only [Act.put, List.setIfInBounds_toArray, List.set_cons_zero, List.set_cons_succ, i64_w, i32_w]
                  rfl
                refine pure_ (i := 16) (N := some 58) (v := ?_) (a' := ?_) (tf 17 26) rfl rfl (any_of HT_.out (by kernel_rfl)) (fun _ _ _ h => h) (Or.inl ⟨by rfl, ?_⟩) ?_ ?_
                rotate_left
                · intro w'
                  go_simp
                  with_reducible rfl
                rotate_left
                · simp only [Act.put, List.setIfInBounds_toArray, List.set_cons_zero, List.set_cons_succ, i64_w, i32_w]
                  rfl
                refine pure_ (i := 17) (N := some 59) (v := ?_) (a' := ?_) (tf 18 25) rfl rfl (any_of HT_.out (by kernel_rfl)) (fun _ _ _ h => h) (Or.inl ⟨by rfl, ?_⟩) ?_ ?_
                rotate_left
                · intro w'
                  go_simp
                  with_reducible rfl
                rotate_left
                · simp only [Act.put, List.setIfInBounds_toArray, List.set_cons_zero, List.set_cons_succ, i64_w, i32_w]
                  rfl
                refine pure_ (i := 19) (N := some 61) (v := ?_) (a' := ?_) #[true, true, true, true, true, true, true, true, true, true, true, true, true, true, true, true, true, true, false, true, false, false, false, false, false, false, false, false, false, false, false, false, false, false, false, false, false, false, false, false, false, false, false] rfl rfl (any_of HT_.out (by kernel_rfl)) (fun _ _ _ h => h) (Or.inl ⟨by rfl, ?_⟩) ?_ ?_
                rotate_left
                · intro w'
                  go_simp
                  with_reducible rfl
                rotate_left
                · simp only [Act.put, List.setIfInBounds_toArray, List.set_cons_zero, List.set_cons_succ, i64_w, i32_w]
                  rfl
                refine take_ (i := 18) (N := some 60) (v := ?_) (a' := ?_) (tf 20 23) rfl rfl (take_ofW HT_.out HW_.out (by kernel_rfl)) (fun _ _ _ h => h) (Or.inl ⟨by rfl, ?_⟩) hHeld ?_ ?_
                rotate_left
                · rintro w' ⟨s0, s1, s2, s3, s4, s5, s6, s7, s8, s9, s10, s11, s12, s13, s14, s15, s16, s17, s18⟩
                  go_simp
                  with_reducible rfl
                rotate_left
                · simp only [Act.put, List.setIfInBounds_toArray, List.set_cons_zero, List.set_cons_succ, i64_w, i32_w]
                  rfl
                refine pure_ (i := 20) (N := some 62) (v := ?_) (a' := ?_) (tf 21 22) rfl rfl (any_of HT_.out (by kernel_rfl)) (fun _ _ _ h => h) (Or.inl ⟨by rfl, ?_⟩) ?_ ?_
                rotate_left
                · intro w'
                  go_simp
                  with_reducible rfl
                rotate_left
                · simp only [Act.put, List.setIfInBounds_toArray, List.set_cons_zero, List.set_cons_succ, i64_w, i32_w]
                  rfl
                refine pure_ (i := 21) (N := some 63) (v := ?_) (a' := ?_) (tf 22 21) rfl rfl (any_of HT_.out (by kernel_rfl)) (fun _ _ _ h => h) (Or.inl ⟨by rfl, ?_⟩) ?_ ?_
                rotate_left
                · intro w'
                  go_simp
                  with_reducible rfl
                rotate_left
                · simp only [Act.put, List.setIfInBounds_toArray, List.set_cons_zero, List.set_cons_succ, i64_w, i32_w]
                  rfl
                refine pure_ (i := 22) (N := some 64) (v := ?_) (a' := ?_) (tf 23 20) rfl rfl (any_of HT_.out (by kernel_rfl)) (fun _ _ _ h => h) (Or.inl ⟨by rfl, ?_⟩) ?_ ?_
                rotate_left
                · intro w'
                  go_simp
                  with_reducible rfl
                rotate_left
                · simp only [Act.put, List.setIfInBounds_toArray, List.set_cons_zero, List.set_cons_succ, i64_w, i32_w]
                  rfl
                refine pure_ (i := 23) (N := some 65) (v := ?_) (a' := ?_) (tf 24 19) rfl rfl (any_of HT_.out (by kernel_rfl)) (fun _ _ _ h => h) (Or.inl ⟨by rfl, ?_⟩) ?_ ?_
                rotate_left
                · intro w'
                  go_simp
                  with_reducible rfl
                rotate_left
                · simp only [Act.put, List.setIfInBounds_toArray, List.set_cons_zero, List.set_cons_succ, i64_w, i32_w]
                  rfl
                refine pure_ (i := 24) (N := some 66) (v := ?_) (a' := ?_) (tf 25 18) rfl rfl (any_of HT_.out (by kernel_rfl)) (fun _ _ _ h => h) (Or.inl ⟨by rfl, ?_⟩) ?_ ?_
                rotate_left
                · intro w'
                  go_simp
                  with_reducible rfl
                rotate_left
                · simp only [Act.put, List.setIfInBounds_toArray, List.set_cons_zero, List.set_cons_succ, i64_w, i32_w]
                  rfl
                refine pure_ (i := 25) (N := some 67) (v := ?_) (a' := ?_) (tf 26 17) rfl rfl (any_of HT_.out (by kernel_rfl)) (fun _ _ _ h => h) (Or.inl ⟨by rfl, ?_⟩) ?_ ?_
                rotate_left
                · intro w'
                  go_simp
                  with_reducible rfl
                rotate_left
                · simp only [Act.put, List.setIfInBounds_toArray, List.set_cons_zero, List.set_cons_succ, i64_w, i32_w]
                  rfl
                refine pure_ (i := 26) (N := some 68) (v := ?_) (a' := ?_) (tf 27 16) rfl rfl (any_of HT_.out (by kernel_rfl)) (fun _ _ _ h => h) (Or.inl ⟨by rfl, ?_⟩) ?_ ?_
                rotate_left
                · intro w'
                  go_simp
                  with_reducible rfl
                rotate_left
                · simp only [Act.put, List.setIfInBounds_toArray, List.set_cons_zero, List.set_cons_succ, i64_w, i32_w]
                  rfl
                refine pure_ (i := 27) (N := some 69) (v := ?_) (a' := ?_) (tf 28 15) rfl rfl (any_of HT_.out (by kernel_rfl)) (fun _ _ _ h => h) (Or.inl ⟨by rfl, ?_⟩) ?_ ?_
                rotate_left
                · intro w'
                  go_simp
                  with_reducible rfl
                rotate_left
                · simp only [Act.put, List.setIfInBounds_toArray, List.set_cons_zero, List.set_cons_succ, i64_w, i32_w]
                  rfl
                refine take_ (i := 28) (N := some 70) (v := ?_) (a' := ?_) (tf 29 14) rfl rfl (take_ofW HT_.out HW_.out (by kernel_rfl)) (fun _ _ _ h => h) (Or.inl ⟨by rfl, ?_⟩) hHeld ?_ ?_
                rotate_left
                · rintro w' ⟨s0, s1, s2, s3, s4, s5, s6, s7, s8, s9, s10, s11, s12, s13, s14, s15, s16, s17, s18⟩
                  go_simp
                  with_reducible rfl
                rotate_left
                · simp only [Act.put, List.setIfInBounds_toArray, List.set_cons_zero, List.set_cons_succ, i64_w, i32_w]
                  rfl
                refine take_ (i := 29) (N := some 71) (v := ?_) (a' := ?_) (tf 30 13) rfl rfl (take_ofW HT_.out HW_.out (by kernel_rfl)) (fun _ _ _ h => h) (Or.inl ⟨by rfl, ?_⟩) hHeld ?_ ?_
                rotate_left
                · rintro w' ⟨s0, s1, s2, s3, s4, s5, s6, s7, s8, s9, s10, s11, s12, s13, s14, s15, s16, s17, s18⟩
                  go_simp
                  with_reducible rfl
                rotate_left
                · simp only [Act.put, List.setIfInBounds_toArray, List.set_cons_zero, List.set_cons_succ, i64_w, i32_w]
                  rfl
                refine take_ (i := 31) (N := some 73) (v := ?_) (a' := ?_) #[true, true, true, true, true, true, true, true, true, true, true, true, true, true, true, true, true, true, true, true, true, true, true, true, true, true, true, true, true, true, false, true, false, false, false, false, false, false, false, false, false, false, false] rfl rfl (take_ofW HT_.out HW_.out (by kernel_rfl)) (fun _ _ _ h => h) (Or.inl ⟨by rfl, ?_⟩) hHeld ?_ ?_
                rotate_left
                · rintro w' ⟨s0, s1, s2, s3, s4, s5, s6, s7, s8, s9, s10, s11, s12, s13, s14, s15, s16, s17, s18⟩
                  go_simp
                  with_reducible rfl
                rotate_left
                · simp only [Act.put, List.setIfInBounds_toArray, List.set_cons_zero, List.set_cons_succ, i64_w, i32_w]
                  rfl
                refine take_ (i := 32) (N := some 74) (v := ?_) (a' := ?_) #[true, true, true, true, true, true, true, true, true, true, true, true, true, true, true, true, true, true, true, true, true, true, true, true, true, true, true, true, true, true, false, true, true, false, false, false, false, false, false, false, false, false, false] rfl rfl (take_ofW HT_.out HW_.out (by kernel_rfl)) (fun _ _ _ h => h) (Or.inl ⟨by rfl, ?_⟩) hHeld ?_ ?_
                rotate_left
                · rintro w' ⟨s0, s1, s2, s3, s4, s5, s6, s7, s8, s9, s10, s11, s12, s13, s14, s15, s16, s17, s18⟩
                  go_simp
                  with_reducible rfl
                rotate_left
                · simp only [Act.put, List.setIfInBounds_toArray, List.set_cons_zero, List.set_cons_succ, i64_w, i32_w]
                  rfl
                refine one_ (i := 30) (N := some 72) (tf 33 10) rfl rfl (one_of HT_.out (by kernel_rfl)) (by decide) (fun K hK => ?_)
                refine goes_ Try.func50 (by kernel_rfl) rfl #[.agg #[.int .u64 t222, .int .u64 t223, .int .i64 t224, .int .i64 t225, .int .u64 t226, .slice Ao22 t227.length co22], .agg #[.int .u64 t230, .int .u64 t231, .int .i64 t232, .int .i64 t233, .int .u64 t234, .slice Ao29 t235.length co29]] (by rfl) rfl rfl (by (try simp only [List.map_toArray, List.map_cons, List.map_nil]); first | done | rfl | (simp only [List.length_drop, List.length_take]; rfl)) ?_
                with_reducible refine (keygram_Same.calls t222 t223 t224 t225 t226 _ _ t227 t230 t231 t232 t233 t234 _ _ t235 t261 _ ?side1 ?side2 ?side3 ?side4 A58.out).mono ?_
                (case side1 => repeat (first | exact (Kd.N_reads' HO229.out).2.2 | (with_reducible refine Kd.C_alloc ?_ _) | (with_reducible refine Kd.C_drewN ?_ _) | (with_reducible refine Kd.C_drew ?_)))
                (case side2 => exact (Kd.N_reads' HO229.out).2.1)
                (case side3 => repeat (first | exact (Kd.N_reads' HO237.out).2.2 | (with_reducible refine Kd.C_alloc ?_ _) | (with_reducible refine Kd.C_drewN ?_ _) | (with_reducible refine Kd.C_drew ?_)))
                (case side4 => exact (Kd.N_reads' HO237.out).2.1)
                rintro e w66 ⟨rfl, hb⟩
                refine ⟨_, rfl, ?_⟩
                have n0_ := a0 (Kd.N_below (by (with_reducible repeat (first | apply Kd.N_alloc | apply Kd.N_drewN | apply Kd.N_drew)); exact HO229.out) hb)
                have n1_ := a0 (Kd.N_below (by (with_reducible repeat (first | apply Kd.N_alloc | apply Kd.N_drewN | apply Kd.N_drew)); exact HO237.out) hb)
                have n2_ := a0 (Kd.R_below (by (with_reducible repeat (first | apply rA | apply rN | apply rD)); exact HO245.out) hb)
                have n3_ := a0 (Kd.R_below (by (with_reducible repeat (first | apply rA | apply rN | apply rD)); exact HO250.out) hb)
                have n4_ := a0 (Kd.R_below (by (with_reducible repeat (first | apply rA | apply rN | apply rD)); exact HO254.out) hb)
                have n5_ := a0 (blk_below (g := gb220) (o := .cells #[.int .u64 t222, .int .u64 t223, .int .i64 t224, .int .i64 t225, .int .u64 t226, .slice Ao22 t227.length co22] 66 (0, 0)) (by (with_reducible repeat (first | apply bN | apply bD | apply bA)); exact BK220.out) hb)
                have n6_ := a0 (blk_below (g := gb221) (o := .cells #[.int .u64 t230, .int .u64 t231, .int .i64 t232, .int .i64 t233, .int .u64 t234, .slice Ao29 t235.length co29] 66 (0, 0)) (by (with_reducible repeat (first | apply bN | apply bD | apply bA)); exact BK221.out) hb)
                have n7_ := a0 (blk_below (g := gb246) (o := .cells #[.int .u64 t238, .int .u64 t239, .int .i64 t240, .int .i64 t241, .int .u64 t242, .slice Ao38 t243.length co38] 71 (0, 0)) (by (with_reducible repeat (first | apply bN | apply bD | apply bA)); exact BK246.out) hb)
                have n8_ := a0 (below_step (by repeat (first | (with_reducible first | exact HB.out | apply lA | apply lN | apply lD | refine below_set ?_ GE220.out | refine below_set ?_ GE221.out | refine below_set ?_ GE246.out) | exact HB.out)) hb)
                clear HO229
                clear HO237
                clear HO245
                clear HO250
                clear HO254
                clear BK220
                clear BK221
                clear BK246
                clear HB
                have HO229 := n0_
                have HO237 := n1_
                have HO245 := n2_
                have HO250 := n3_
                have HO254 := n4_
                have BK220 := n5_
                have BK221 := n6_
                have BK246 := n7_
                have HB := n8_
                clear n0_ n1_ n2_ n3_ n4_ n5_ n6_ n7_ n8_
                (try clear hb)
                (try clear hb2)
                (try clear hk)
                (try clear hi)
                refine hK.out _ _ ⟨(blk_cell BK220.out 0).trans rfl, (blk_cell BK220.out 1).trans rfl, (blk_cell BK220.out 2).trans rfl, (blk_cell BK220.out 3).trans rfl, (blk_cell BK220.out 4).trans rfl, (blk_cell BK220.out 5).trans rfl, (blk_cell BK246.out 0).trans rfl, (blk_cell BK246.out 1).trans rfl, (blk_cell BK246.out 2).trans rfl, (blk_cell BK246.out 3).trans rfl, (blk_cell BK246.out 4).trans rfl, (blk_cell BK246.out 5).trans rfl, (blk_cell BK221.out 0).trans rfl, (blk_cell BK221.out 1).trans rfl, (blk_cell BK221.out 2).trans rfl, (blk_cell BK221.out 3).trans rfl, (blk_cell BK221.out 4).trans rfl, (blk_cell BK221.out 5).trans rfl, (own_string (P := Try.prog) Try.underlying27 Try.underlying5 Try.underlying9 (Kd.own_of_R HO254.out))⟩ (fun hHeld => ?_)
                clear hK K
                refine norm_ (a' := ?_) ?_ ?_
                rotate_left
                · show Act.put _ (some 72) _ = _
                  simp only [Act.put, List.setIfInBounds_toArray, List.set_cons_zero, List.set_cons_succ, i64_w, i32_w]
                  rfl
                refine one_ (i := 33) (N := some 75) (tf 34 9) rfl rfl (one_of HT_.out (by kernel_rfl)) (by decide) (fun K hK => ?_)
                refine goes_ Try.func42 (by kernel_rfl) rfl #[.agg #[.int .u64 t230, .int .u64 t231, .int .i64 t232, .int .i64 t233, .int .u64 t234, .slice Ao29 t235.length co29]] (by rfl) rfl rfl (by (try simp only [List.map_toArray, List.map_cons, List.map_nil]); first | done | rfl | (simp only [List.length_drop, List.length_take]; rfl)) ?_
                with_reducible refine (prolepsislaw14_Of.calls k t230 t231 t232 t233 t234 _ _ t235 t262 t263 t264 t265 t266 t267 _ ?side1 ?side2 A59.out).mono ?_
                (case side1 => repeat (first | exact (Kd.N_reads' HO237.out).2.2 | (with_reducible refine Kd.C_alloc ?_ _) | (with_reducible refine Kd.C_drewN ?_ _) | (with_reducible refine Kd.C_drew ?_)))
                (case side2 => exact (Kd.N_reads' HO237.out).2.1)
                rintro e w67 ⟨v268, rfl, ho0, hb⟩
                refine ⟨_, rfl, ?_⟩
                have n0_ := a0 (Kd.N_elder' (by (with_reducible repeat (first | apply Kd.N_alloc | apply Kd.N_drewN | apply Kd.N_drew)); exact HO229.out) (Kd.R_base ho0) hb)
                have n1_ := a0 (Kd.N_elder' (by (with_reducible repeat (first | apply Kd.N_alloc | apply Kd.N_drewN | apply Kd.N_drew)); exact HO237.out) (Kd.R_base ho0) hb)
                have n2_ := a0 (Kd.R_elder' (by (with_reducible repeat (first | apply rA | apply rN | apply rD)); exact HO245.out) (Kd.R_base ho0) hb)
                have n3_ := a0 (Kd.R_below (by (with_reducible repeat (first | apply rA | apply rN | apply rD)); exact HO250.out) hb)
                have n4_ := a0 (Kd.R_below (by (with_reducible repeat (first | apply rA | apply rN | apply rD)); exact HO254.out) hb)
                have n5_ := a0 (Kd.R_lower (Kd.R_new' ho0 (Kd.R_lt (by (with_reducible repeat (first | apply rA | apply rN | apply rD)); exact HO245.out))) (below_size (by repeat (first | (with_reducible first | exact HB.out | apply lA | apply lN | apply lD | refine below_set ?_ GE220.out | refine below_set ?_ GE221.out | refine below_set ?_ GE246.out) | exact HB.out))))
                have n6_ := a0 (blk_below (g := gb220) (o := .cells #[.int .u64 t222, .int .u64 t223, .int .i64 t224, .int .i64 t225, .int .u64 t226, .slice Ao22 t227.length co22] 66 (0, 0)) (by (with_reducible repeat (first | apply bN | apply bD | apply bA)); exact BK220.out) hb)
                have n7_ := a0 (blk_below (g := gb221) (o := .cells #[.int .u64 t230, .int .u64 t231, .int .i64 t232, .int .i64 t233, .int .u64 t234, .slice Ao29 t235.length co29] 66 (0, 0)) (by (with_reducible repeat (first | apply bN | apply bD | apply bA)); exact BK221.out) hb)
                have n8_ := a0 (blk_below (g := gb246) (o := .cells #[.int .u64 t238, .int .u64 t239, .int .i64 t240, .int .i64 t241, .int .u64 t242, .slice Ao38 t243.length co38] 71 (0, 0)) (by (with_reducible repeat (first | apply bN | apply bD | apply bA)); exact BK246.out) hb)
                have n9_ := a0 (below_step (by repeat (first | (with_reducible first | exact HB.out | apply lA | apply lN | apply lD | refine below_set ?_ GE220.out | refine below_set ?_ GE221.out | refine below_set ?_ GE246.out) | exact HB.out)) hb)
                clear HO229
                clear HO237
                clear HO245
                clear HO250
                clear HO254
                clear BK220
                clear BK221
                clear BK246
                clear HB
                have HO229 := n0_
                have HO237 := n1_
                have HO245 := n2_
                have HO250 := n3_
                have HO254 := n4_
                have HO269 := n5_
                have BK220 := n6_
                have BK221 := n7_
                have BK246 := n8_
                have HB := n9_
                clear n0_ n1_ n2_ n3_ n4_ n5_ n6_ n7_ n8_ n9_
                (try clear hb)
                (try clear hb2)
                (try clear hk)
                (try clear hi)
                (try clear ho0)
                obtain ⟨Ao68, co68, eo68⟩ := Kd.R_slice HO269.out
                (first | subst eo68 | (injection eo68 with f1_ f2_ f3_; have f4_ := f1_.symm; have f5_ := f3_.symm; clear f1_ f2_ f3_; subst f4_; subst f5_))
                refine hK.out _ _ ⟨(blk_cell BK220.out 0).trans rfl, (blk_cell BK220.out 1).trans rfl, (blk_cell BK220.out 2).trans rfl, (blk_cell BK220.out 3).trans rfl, (blk_cell BK220.out 4).trans rfl, (blk_cell BK220.out 5).trans rfl, (blk_cell BK246.out 0).trans rfl, (blk_cell BK246.out 1).trans rfl, (blk_cell BK246.out 2).trans rfl, (blk_cell BK246.out 3).trans rfl, (blk_cell BK246.out 4).trans rfl, (blk_cell BK246.out 5).trans rfl, (blk_cell BK221.out 0).trans rfl, (blk_cell BK221.out 1).trans rfl, (blk_cell BK221.out 2).trans rfl, (blk_cell BK221.out 3).trans rfl, (blk_cell BK221.out 4).trans rfl, (blk_cell BK221.out 5).trans rfl, (own_string (P := Try.prog) Try.underlying27 Try.underlying5 Try.underlying9 (Kd.own_of_R HO254.out))⟩ (fun hHeld => ?_)
                clear hK K
                refine norm_ (a' := ?_) ?_ ?_
                rotate_left
                · show Act.put _ (some 75) _ = _
                  simp only [Act.put, List.setIfInBounds_toArray, List.set_cons_zero, List.set_cons_succ, i64_w, i32_w]
                  rfl
                refine one_ (i := 34) (N := some 76) (tf 35 8) rfl rfl (one_of HT_.out (by kernel_rfl)) (by decide) (fun K hK => ?_)
                refine goes_ Try.func47 (by kernel_rfl) rfl #[.agg #[.int .u64 t238, .int .u64 t239, .int .i64 t240, .int .i64 t241, .int .u64 t242, .slice Ao38 t243.length co38], .agg #[.int .u64 t262, .int .u64 t263, .int .i64 t264, .int .i64 t265, .int .u64 t266, .slice Ao68 t267.length co68]] (by rfl) rfl rfl (by (try simp only [List.map_toArray, List.map_cons, List.map_nil]); first | done | rfl | (simp only [List.length_drop, List.length_take]; rfl)) ?_
                with_reducible refine (prolepsisref14_Same.calls k t238 t239 t240 t241 t242 _ _ t243 t262 t263 t264 t265 t266 _ _ t267 t270 _ ?side1 ?side2 ?side3 ?side4 A60.out).mono ?_
                (case side1 => repeat (first | exact (Kd.R_reads' HO245.out).2.2 | (with_reducible refine Kd.C_alloc ?_ _) | (with_reducible refine Kd.C_drewN ?_ _) | (with_reducible refine Kd.C_drew ?_)))
                (case side2 => exact (Kd.R_reads' HO245.out).2.1)
                (case side3 => repeat (first | exact (Kd.R_reads' HO269.out).2.2 | (with_reducible refine Kd.C_alloc ?_ _) | (with_reducible refine Kd.C_drewN ?_ _) | (with_reducible refine Kd.C_drew ?_)))
                (case side4 => exact (Kd.R_reads' HO269.out).2.1)
                rintro e w69 ⟨rfl, hb⟩
                refine ⟨_, rfl, ?_⟩
                have n0_ := a0 (Kd.N_below (by (with_reducible repeat (first | apply Kd.N_alloc | apply Kd.N_drewN | apply Kd.N_drew)); exact HO229.out) hb)
                have n1_ := a0 (Kd.N_below (by (with_reducible repeat (first | apply Kd.N_alloc | apply Kd.N_drewN | apply Kd.N_drew)); exact HO237.out) hb)
                have n2_ := a0 (Kd.R_below (by (with_reducible repeat (first | apply rA | apply rN | apply rD)); exact HO245.out) hb)
                have n3_ := a0 (Kd.R_below (by (with_reducible repeat (first | apply rA | apply rN | apply rD)); exact HO250.out) hb)
                have n4_ := a0 (Kd.R_below (by (with_reducible repeat (first | apply rA | apply rN | apply rD)); exact HO254.out) hb)
                have n5_ := a0 (Kd.R_below (by (with_reducible repeat (first | apply rA | apply rN | apply rD)); exact HO269.out) hb)
                have n6_ := a0 (blk_below (g := gb220) (o := .cells #[.int .u64 t222, .int .u64 t223, .int .i64 t224, .int .i64 t225, .int .u64 t226, .slice Ao22 t227.length co22] 66 (0, 0)) (by (with_reducible repeat (first | apply bN | apply bD | apply bA)); exact BK220.out) hb)
                have n7_ := a0 (blk_below (g := gb221) (o := .cells #[.int .u64 t230, .int .u64 t231, .int .i64 t232, .int .i64 t233, .int .u64 t234, .slice Ao29 t235.length co29] 66 (0, 0)) (by (with_reducible repeat (first | apply bN | apply bD | apply bA)); exact BK221.out) hb)
                have n8_ := a0 (blk_below (g := gb246) (o := .cells #[.int .u64 t238, .int .u64 t239, .int .i64 t240, .int .i64 t241, .int .u64 t242, .slice Ao38 t243.length co38] 71 (0, 0)) (by (with_reducible repeat (first | apply bN | apply bD | apply bA)); exact BK246.out) hb)
                have n9_ := a0 (below_step (by repeat (first | (with_reducible first | exact HB.out | apply lA | apply lN | apply lD | refine below_set ?_ GE220.out | refine below_set ?_ GE221.out | refine below_set ?_ GE246.out) | exact HB.out)) hb)
                clear HO229
                clear HO237
                clear HO245
                clear HO250
                clear HO254
                clear HO269
                clear BK220
                clear BK221
                clear BK246
                clear HB
                have HO229 := n0_
                have HO237 := n1_
                have HO245 := n2_
                have HO250 := n3_
                have HO254 := n4_
                have HO269 := n5_
                have BK220 := n6_
                have BK221 := n7_
                have BK246 := n8_
                have HB := n9_
                clear n0_ n1_ n2_ n3_ n4_ n5_ n6_ n7_ n8_ n9_
                (try clear hb)
                (try clear hb2)
                (try clear hk)
                (try clear hi)
                refine hK.out _ _ ⟨(blk_cell BK220.out 0).trans rfl, (blk_cell BK220.out 1).trans rfl, (blk_cell BK220.out 2).trans rfl, (blk_cell BK220.out 3).trans rfl, (blk_cell BK220.out 4).trans rfl, (blk_cell BK220.out 5).trans rfl, (blk_cell BK246.out 0).trans rfl, (blk_cell BK246.out 1).trans rfl, (blk_cell BK246.out 2).trans rfl, (blk_cell BK246.out 3).trans rfl, (blk_cell BK246.out 4).trans rfl, (blk_cell BK246.out 5).trans rfl, (blk_cell BK221.out 0).trans rfl, (blk_cell BK221.out 1).trans rfl, (blk_cell BK221.out 2).trans rfl, (blk_cell BK221.out 3).trans rfl, (blk_cell BK221.out 4).trans rfl, (blk_cell BK221.out 5).trans rfl, (own_string (P := Try.prog) Try.underlying27 Try.underlying5 Try.underlying9 (Kd.own_of_R HO254.out))⟩ (fun hHeld => ?_)
                clear hK K
                refine norm_ (a' := ?_) ?_ ?_
                rotate_left
                · show Act.put _ (some 76) _ = _
                  simp only [Act.put, List.setIfInBounds_toArray, List.set_cons_zero, List.set_cons_succ, i64_w, i32_w]
                  rfl
                refine pure_ (i := 35) (N := some 77) (v := ?_) (a' := ?_) (tf 36 7) rfl rfl (any_of HT_.out (by kernel_rfl)) (fun _ _ _ h => h) (Or.inl ⟨by rfl, ?_⟩) ?_ ?_
                rotate_left
                · intro w'
                  go_simp
                  with_reducible rfl
                rotate_left
                · simp only [Act.put, List.setIfInBounds_toArray, List.set_cons_zero, List.set_cons_succ, i64_w, i32_w]
                  rfl
                refine pure_ (i := 36) (N := some 78) (v := ?_) (a' := ?_) (tf 37 6) rfl rfl (any_of HT_.out (by kernel_rfl)) (fun _ _ _ h => h) (Or.inl ⟨by rfl, ?_⟩) ?_ ?_
                rotate_left
                · intro w'
                  go_simp
                  with_reducible rfl
                rotate_left
                · simp only [Act.put, List.setIfInBounds_toArray, List.set_cons_zero, List.set_cons_succ, i64_w, i32_w]
                  rfl
                refine pure_ (i := 37) (N := some 79) (v := ?_) (a' := ?_) (tf 38 5) rfl rfl (any_of HT_.out (by kernel_rfl)) (fun _ _ _ h => h) (Or.inl ⟨by rfl, ?_⟩) ?_ ?_
                rotate_left
                · intro w'
                  go_simp
                  with_reducible rfl
                rotate_left
                · simp only [Act.put, List.setIfInBounds_toArray, List.set_cons_zero, List.set_cons_succ, i64_w, i32_w]
                  rfl
                refine pure_ (i := 38) (N := some 80) (v := undef) (a' := ?_) (tf 39 4) rfl rfl (any_of HT_.out (by kernel_rfl)) (fun _ _ _ h => h) (Or.inr ⟨by rfl, rfl⟩) ?_ ?_
                rotate_left
                · simp only [Act.put, List.setIfInBounds_toArray, List.set_cons_zero, List.set_cons_succ, i64_w, i32_w]
                  rfl
                refine pure_ (i := 39) (N := some 81) (v := undef) (a' := ?_) (tf 40 3) rfl rfl (any_of HT_.out (by kernel_rfl)) (fun _ _ _ h => h) (Or.inr ⟨by rfl, rfl⟩) ?_ ?_
                rotate_left
                · simp only [Act.put, List.setIfInBounds_toArray, List.set_cons_zero, List.set_cons_succ, i64_w, i32_w]
                  rfl
                refine pure_ (i := 40) (N := some 82) (v := undef) (a' := ?_) (tf 41 2) rfl rfl (any_of HT_.out (by kernel_rfl)) (fun _ _ _ h => h) (Or.inr ⟨by rfl, rfl⟩) ?_ ?_
                rotate_left
                · simp only [Act.put, List.setIfInBounds_toArray, List.set_cons_zero, List.set_cons_succ, i64_w, i32_w]
                  rfl
                refine pure_ (i := 41) (N := some 83) (v := undef) (a' := ?_) (tf 42 1) rfl rfl (any_of HT_.out (by kernel_rfl)) (fun _ _ _ h => h) (Or.inr ⟨by rfl, rfl⟩) ?_ ?_
                rotate_left
                · simp only [Act.put, List.setIfInBounds_toArray, List.set_cons_zero, List.set_cons_succ, i64_w, i32_w]
                  rfl
                refine pure_ (i := 42) (N := some 84) (v := ?_) (a' := ?_) (tf 43 0) rfl rfl (any_of HT_.out (by kernel_rfl)) (fun _ _ _ h => h) (Or.inl ⟨by rfl, ?_⟩) ?_ ?_
                rotate_left
                · intro w'
                  go_simp
                  with_reducible rfl
                rotate_left
                · simp only [Act.put, List.setIfInBounds_toArray, List.set_cons_zero, List.set_cons_succ, i64_w, i32_w]
                  rfl
                refine done_ (done_of HT_.out (by kernel_rfl)) ?_
                try go_wp2
                go_meet
                case rel => exact ⟨_, (true), (by first | rfl | (simp; done) | (simp [*]; done)), H', ⟨by first | omega | exact Nat.le_refl _⟩, ⟨by (with_reducible repeat (first | apply rA | apply rN | apply rD)); exact Kd.R_mono HO250.out (fun _ hk => trivial)⟩, ⟨by (with_reducible repeat (first | apply Kd.N_alloc | apply Kd.N_drewN | apply Kd.N_drew)); exact Kd.N_mono HO229.out (fun _ hk => ⟨hk.1.1.2, ⟨hk.1.1.1.1.1.2, ⟨hk.1.1.1.1.2, ⟨hk.1.1.1.1.1.1.1, ⟨hk.1.1.1.1.1.1.2, hk.1.1.1.2⟩⟩⟩⟩⟩)⟩, ⟨by (with_reducible repeat (first | apply Kd.N_alloc | apply Kd.N_drewN | apply Kd.N_drew)); exact Kd.N_mono HO237.out (fun _ hk => ⟨hk.1.1.2, ⟨hk.1.1.1.1.1.1, ⟨hk.1.1.1.1.2, ⟨hk.1.1.1.1.1.2.1, ⟨hk.1.1.1.1.1.2.2, hk.1.1.1.2⟩⟩⟩⟩⟩)⟩, ⟨by (with_reducible repeat (first | apply rA | apply rN | apply rD)); exact Kd.R_mono HO245.out (fun _ hk => trivial)⟩, ⟨by (with_reducible repeat (first | apply bN | apply bD | apply bA)); exact BK220.out⟩, ⟨by (with_reducible repeat (first | apply bN | apply bD | apply bA)); exact BK221.out⟩, ⟨by (with_reducible repeat (first | apply bN | apply bD | apply bA)); exact BK246.out⟩, ⟨by repeat (first | (with_reducible first | exact HB.out | apply lA | apply lN | apply lD | refine below_set ?_ GE220.out | refine below_set ?_ GE221.out | refine below_set ?_ GE246.out) | exact HB.out)⟩⟩
              · rw [if_neg c61] at H
                have c61b0 : (t261 != t270) = false := by simpa using c61
                (try (have c61b1 : decide (t261 = t270) = true := by simpa using c61))
                (try (have c61b2 : (t261 == t270) = true := by simpa using c61))
                clear c61
                replace H := Option.bind_eq_some_iff.mp H
                obtain ⟨t271, A700, H⟩ := H
                try dsimp only at H
                have A70 := Aside0.mk A700
                clear A700
                have H' := Aside0.mk H
                clear H
                try go_wp2
                have n0_ := a0 (Kd.N_drew HO229.out)
                have n1_ := a0 (Kd.N_drew HO237.out)
                have n2_ := a0 (Kd.R_drew HO245.out)
                have n3_ := a0 (Kd.R_drew HO250.out)
                have n4_ := a0 (Kd.R_drew HO254.out)
                have n5_ := a0 (blk_drew BK220.out)
                have n6_ := a0 (blk_drew BK221.out)
                have n7_ := a0 (blk_drew BK246.out)
                have n8_ := a0 (below_drew1 HB.out)
                clear HO229
                clear HO237
                clear HO245
                clear HO250
                clear HO254
                clear BK220
                clear BK221
                clear BK246
                clear HB
                have HO229 := n0_
                have HO237 := n1_
                have HO245 := n2_
                have HO250 := n3_
                have HO254 := n4_
                have BK220 := n5_
                have BK221 := n6_
                have BK246 := n7_
                have HB := n8_
                clear n0_ n1_ n2_ n3_ n4_ n5_ n6_ n7_ n8_
                refine start_ (n := 43) (S := fun w' => w'.cell? ⟨gb220, 0, none⟩ = some (.int .u64 t222) ∧ w'.cell? ⟨gb220, 1, none⟩ = some (.int .u64 t223) ∧ w'.cell? ⟨gb220, 2, none⟩ = some (.int .i64 t224) ∧ w'.cell? ⟨gb220, 3, none⟩ = some (.int .i64 t225) ∧ w'.cell? ⟨gb220, 4, none⟩ = some (.int .u64 t226) ∧ w'.cell? ⟨gb220, 5, none⟩ = some (.slice Ao22 t227.length co22) ∧ w'.cell? ⟨gb246, 0, none⟩ = some (.int .u64 t238) ∧ w'.cell? ⟨gb246, 1, none⟩ = some (.int .u64 t239) ∧ w'.cell? ⟨gb246, 2, none⟩ = some (.int .i64 t240) ∧ w'.cell? ⟨gb246, 3, none⟩ = some (.int .i64 t241) ∧ w'.cell? ⟨gb246, 4, none⟩ = some (.int .u64 t242) ∧ w'.cell? ⟨gb246, 5, none⟩ = some (.slice Ao38 t243.length co38) ∧ w'.cell? ⟨gb221, 0, none⟩ = some (.int .u64 t230) ∧ w'.cell? ⟨gb221, 1, none⟩ = some (.int .u64 t231) ∧ w'.cell? ⟨gb221, 2, none⟩ = some (.int .i64 t232) ∧ w'.cell? ⟨gb221, 3, none⟩ = some (.int .i64 t233) ∧ w'.cell? ⟨gb221, 4, none⟩ = some (.int .u64 t234) ∧ w'.cell? ⟨gb221, 5, none⟩ = some (.slice Ao29 t235.length co29) ∧ (convert 27 9 v253).run Try.prog w' = .ok (.string (strOfNums t252)) w') (ds := []) (tf 0 43) (by kernel_rfl) rfl rfl ⟨(blk_cell BK220.out 0).trans rfl, (blk_cell BK220.out 1).trans rfl, (blk_cell BK220.out 2).trans rfl, (blk_cell BK220.out 3).trans rfl, (blk_cell BK220.out 4).trans rfl, (blk_cell BK220.out 5).trans rfl, (blk_cell BK246.out 0).trans rfl, (blk_cell BK246.out 1).trans rfl, (blk_cell BK246.out 2).trans rfl, (blk_cell BK246.out 3).trans rfl, (blk_cell BK246.out 4).trans rfl, (blk_cell BK246.out 5).trans rfl, (blk_cell BK221.out 0).trans rfl, (blk_cell BK221.out 1).trans rfl, (blk_cell BK221.out 2).trans rfl, (blk_cell BK221.out 3).trans rfl, (blk_cell BK221.out 4).trans rfl, (blk_cell BK221.out 5).trans rfl, (own_string (P := Try.prog) Try.underlying27 Try.underlying5 Try.underlying9 (Kd.own_of_R HO254.out))⟩ (fun hHeld => ?_); refine with_tabW prolepsislaw14_KeygramTells.tab7 prolepsislaw14_KeygramTells.bits7 (fun HT_ HW_ => ?_)
                generalize w45.drew = w71 at HO229 HO237 HO245 HO250 HO254 BK220 BK221 BK246 HB hHeld ⊢
                refine pure_ (i := 2) (N := some 44) (v := ?_) (a' := ?_) #[false, false, true, false, false, false, false, false, false, false, false, false, false, false, false, false, false, false, false, false, false, false, false, false, false, false, false, false, false, false, false, false, false, false, false, false, false, false, false, false, false, false, false] rfl rfl (any_of HT_.out (by kernel_rfl)) (fun _ _ _ h => h) (Or.inl ⟨by rfl, ?_⟩) ?_ ?_
                rotate_left
                · intro w'
                  go_simp
                  with_reducible rfl
                rotate_left
                · simp only [Act.put, List.setIfInBounds_toArray, List.set_cons_zero, List.set_cons_succ, i64_w, i32_w]
                  rfl
                refine take_ (i := 0) (N := some 42) (v := ?_) (a' := ?_) #[true, false, true, false, false, false, false, false, false, false, false, false, false, false, false, false, false, false, false, false, false, false, false, false, false, false, false, false, false, false, false, false, false, false, false, false, false, false, false, false, false, false, false] rfl rfl (take_ofW HT_.out HW_.out (by kernel_rfl)) (fun _ _ _ h => h) (Or.inl ⟨by rfl, ?_⟩) hHeld ?_ ?_
                rotate_left
                · rintro w' ⟨s0, s1, s2, s3, s4, s5, s6, s7, s8, s9, s10, s11, s12, s13, s14, s15, s16, s17, s18⟩
                  go_simp
                  with_reducible rfl
                rotate_left
                · simp only [Act.put, List.setIfInBounds_toArray, List.set_cons_zero, List.set_cons_succ, i64_w, i32_w]
                  rfl
                refine one_ (i := 1) (N := some 43) (tf 3 40) rfl rfl (one_of HT_.out (by kernel_rfl)) (by decide) (fun K hK => ?_)
                refine goes_ Try.func40 (by kernel_rfl) rfl #[.agg #[.int .u64 t222, .int .u64 t223, .int .i64 t224, .int .i64 t225, .int .u64 t226, .slice Ao22 t227.length co22]] (by rfl) rfl rfl (by (try simp only [List.map_toArray, List.map_cons, List.map_nil]); first | done | rfl | (simp only [List.length_drop, List.length_take]; rfl)) ?_
                with_reducible refine (keygram_Check.calls k t222 t223 t224 t225 t226 _ _ t227 t258 _ ?side1 ?side2 A46.out).mono ?_
                (case side1 => repeat (first | exact (Kd.N_reads' HO229.out).2.2 | (with_reducible refine Kd.C_alloc ?_ _) | (with_reducible refine Kd.C_drewN ?_ _) | (with_reducible refine Kd.C_drew ?_)))
                (case side2 => exact (Kd.N_reads' HO229.out).2.1)
                rintro e w72 ⟨rfl, hb⟩
                refine ⟨_, rfl, ?_⟩
                have n0_ := a0 (Kd.N_below (by (with_reducible repeat (first | apply Kd.N_alloc | apply Kd.N_drewN | apply Kd.N_drew)); exact HO229.out) hb)
                have n1_ := a0 (Kd.N_below (by (with_reducible repeat (first | apply Kd.N_alloc | apply Kd.N_drewN | apply Kd.N_drew)); exact HO237.out) hb)
                have n2_ := a0 (Kd.R_below (by (with_reducible repeat (first | apply rA | apply rN | apply rD)); exact HO245.out) hb)
                have n3_ := a0 (Kd.R_below (by (with_reducible repeat (first | apply rA | apply rN | apply rD)); exact HO250.out) hb)
                have n4_ := a0 (Kd.R_below (by (with_reducible repeat (first | apply rA | apply rN | apply rD)); exact HO254.out) hb)
                have n5_ := a0 (blk_below (g := gb220) (o := .cells #[.int .u64 t222, .int .u64 t223, .int .i64 t224, .int .i64 t225, .int .u64 t226, .slice Ao22 t227.length co22] 66 (0, 0)) (by (with_reducible repeat (first | apply bN | apply bD | apply bA)); exact BK220.out) hb)
                have n6_ := a0 (blk_below (g := gb221) (o := .cells #[.int .u64 t230, .int .u64 t231, .int .i64 t232, .int .i64 t233, .int .u64 t234, .slice Ao29 t235.length co29] 66 (0, 0)) (by (with_reducible repeat (first | apply bN | apply bD | apply bA)); exact BK221.out) hb)
                have n7_ := a0 (blk_below (g := gb246) (o := .cells #[.int .u64 t238, .int .u64 t239, .int .i64 t240, .int .i64 t241, .int .u64 t242, .slice Ao38 t243.length co38] 71 (0, 0)) (by (with_reducible repeat (first | apply bN | apply bD | apply bA)); exact BK246.out) hb)
                have n8_ := a0 (below_step (by repeat (first | (with_reducible first | exact HB.out | apply lA | apply lN | apply lD | refine below_set ?_ GE220.out | refine below_set ?_ GE221.out | refine below_set ?_ GE246.out) | exact HB.out)) hb)
                clear HO229
                clear HO237
                clear HO245
                clear HO250
                clear HO254
                clear BK220
                clear BK221
                clear BK246
                clear HB
                have HO229 := n0_
                have HO237 := n1_
                have HO245 := n2_
                have HO250 := n3_
                have HO254 := n4_
                have BK220 := n5_
                have BK221 := n6_
                have BK246 := n7_
                have HB := n8_
                clear n0_ n1_ n2_ n3_ n4_ n5_ n6_ n7_ n8_
                (try clear hb)
                (try clear hb2)
                (try clear hk)
                (try clear hi)
                refine hK.out _ _ ⟨(blk_cell BK220.out 0).trans rfl, (blk_cell BK220.out 1).trans rfl, (blk_cell BK220.out 2).trans rfl, (blk_cell BK220.out 3).trans rfl, (blk_cell BK220.out 4).trans rfl, (blk_cell BK220.out 5).trans rfl, (blk_cell BK246.out 0).trans rfl, (blk_cell BK246.out 1).trans rfl, (blk_cell BK246.out 2).trans rfl, (blk_cell BK246.out 3).trans rfl, (blk_cell BK246.out 4).trans rfl, (blk_cell BK246.out 5).trans rfl, (blk_cell BK221.out 0).trans rfl, (blk_cell BK221.out 1).trans rfl, (blk_cell BK221.out 2).trans rfl, (blk_cell BK221.out 3).trans rfl, (blk_cell BK221.out 4).trans rfl, (blk_cell BK221.out 5).trans rfl, (own_string (P := Try.prog) Try.underlying27 Try.underlying5 Try.underlying9 (Kd.own_of_R HO254.out))⟩ (fun hHeld => ?_)
                clear hK K
                refine norm_ (a' := ?_) ?_ ?_
                rotate_left
                · show Act.put _ (some 43) _ = _
                  simp only [Act.put, List.setIfInBounds_toArray, List.set_cons_zero, List.set_cons_succ, i64_w, i32_w]
                  rfl
                refine pure_ (i := 3) (N := some 45) (v := ?_) (a' := ?_) (tf 4 39) rfl rfl (any_of HT_.out (by kernel_rfl)) (fun _ _ _ h => h) (Or.inl ⟨by rfl, ?_⟩) ?_ ?_
                rotate_left
                · intro w'
                  go_simp
                  with_reducible rfl
                rotate_left
                · simp only [Act.put, List.setIfInBounds_toArray, List.set_cons_zero, List.set_cons_succ, i64_w, i32_w]
                  rfl
                refine pure_ (i := 4) (N := some 46) (v := ?_) (a' := ?_) (tf 5 38) rfl rfl (any_of HT_.out (by kernel_rfl)) (fun _ _ _ h => h) (Or.inl ⟨by rfl, ?_⟩) ?_ ?_
                rotate_left
                · intro w'
                  go_simp
                  with_reducible rfl
                rotate_left
                · simp only [Act.put, List.setIfInBounds_toArray, List.set_cons_zero, List.set_cons_succ, i64_w, i32_w]
                  rfl
                refine pure_ (i := 5) (N := some 47) (v := ?_) (a' := ?_) (tf 6 37) rfl rfl (any_of HT_.out (by kernel_rfl)) (fun _ _ _ h => h) (Or.inl ⟨by rfl, ?_⟩) ?_ ?_
                rotate_left
                · intro w'
                  go_simp
                  with_reducible rfl
                rotate_left
                · simp only [Act.put, List.setIfInBounds_toArray, List.set_cons_zero, List.set_cons_succ, i64_w, i32_w]
                  rfl
                refine pure_ (i := 6) (N := some 48) (v := ?_) (a' := ?_) (tf 7 36) rfl rfl (any_of HT_.out (by kernel_rfl)) (fun _ _ _ h => h) (Or.inl ⟨by rfl, ?_⟩) ?_ ?_
                rotate_left
                · intro w'
                  go_simp
                  with_reducible rfl
                rotate_left
                · simp only [Act.put, List.setIfInBounds_toArray, List.set_cons_zero, List.set_cons_succ, i64_w, i32_w]
                  rfl
                refine pure_ (i := 7) (N := some 49) (v := ?_) (a' := ?_) (tf 8 35) rfl rfl (any_of HT_.out (by kernel_rfl)) (fun _ _ _ h => h) (Or.inl ⟨by rfl, ?_⟩) ?_ ?_
                rotate_left
                · intro w'
                  go_simp
                  with_reducible rfl
                rotate_left
                · simp only [Act.put, List.setIfInBounds_toArray, List.set_cons_zero, List.set_cons_succ, i64_w, i32_w]
                  rfl
                refine pure_ (i := 8) (N := some 50) (v := ?_) (a' := ?_) (tf 9 34) rfl rfl (any_of HT_.out (by kernel_rfl)) (fun _ _ _ h => h) (Or.inl ⟨by rfl, ?_⟩) ?_ ?_
                rotate_left
                · intro w'
                  go_simp
                  with_reducible rfl
                rotate_left
                · simp only [Act.put, List.setIfInBounds_toArray, List.set_cons_zero, List.set_cons_succ, i64_w, i32_w]
                  rfl
                refine pure_ (i := 9) (N := some 51) (v := ?_) (a' := ?_) (tf 10 33) rfl rfl (any_of HT_.out (by kernel_rfl)) (fun _ _ _ h => h) (Or.inl ⟨by rfl, ?_⟩) ?_ ?_
                rotate_left
                · intro w'
                  go_simp
                  with_reducible rfl
                rotate_left
                · simp only [Act.put, List.setIfInBounds_toArray, List.set_cons_zero, List.set_cons_succ, i64_w, i32_w]
                  rfl
                refine take_ (i := 10) (N := some 52) (v := ?_) (a' := ?_) (tf 11 32) rfl rfl (take_ofW HT_.out HW_.out (by kernel_rfl)) (fun _ _ _ h => h) (Or.inl ⟨by rfl, ?_⟩) hHeld ?_ ?_
                rotate_left
                · rintro w' ⟨s0, s1, s2, s3, s4, s5, s6, s7, s8, s9, s10, s11, s12, s13, s14, s15, s16, s17, s18⟩
                  go_simp
                  with_reducible rfl
                rotate_left
                · simp only [Act.put, List.setIfInBounds_toArray, List.set_cons_zero, List.set_cons_succ, i64_w, i32_w]
                  rfl
                refine take_ (i := 12) (N := some 54) (v := ?_) (a' := ?_) #[true, true, true, true, true, true, true, true, true, true, true, false, true, false, false, false, false, false, false, false, false, false, false, false, false, false, false, false, false, false, false, false, false, false, false, false, false, false, false, false, false, false, false] rfl rfl (take_ofW HT_.out HW_.out (by kernel_rfl)) (fun _ _ _ h => h) (Or.inl ⟨by rfl, ?_⟩) hHeld ?_ ?_
                rotate_left
                · rintro w' ⟨s0, s1, s2, s3, s4, s5, s6, s7, s8, s9, s10, s11, s12, s13, s14, s15, s16, s17, s18⟩
                  go_simp
                  with_reducible rfl
                rotate_left
                · simp only [Act.put, List.setIfInBounds_toArray, List.set_cons_zero, List.set_cons_succ, i64_w, i32_w]
                  rfl
                refine one_ (i := 11) (N := some 53) (tf 13 30) rfl rfl (one_of HT_.out (by kernel_rfl)) (by decide) (fun K hK => ?_)
                refine goes_ Try.func43 (by kernel_rfl) rfl #[.agg #[.int .u64 t222, .int .u64 t223, .int .i64 t224, .int .i64 t225, .int .u64 t226, .slice Ao22 t227.length co22]] (by rfl) rfl rfl (by (try simp only [List.map_toArray, List.map_cons, List.map_nil]); first | done | rfl | (simp only [List.length_drop, List.length_take]; rfl)) ?_
                with_reducible refine (keygram_Last.calls k t222 t223 t224 t225 t226 _ _ t227 t259 _ ?side1 ?side2 A49.out).mono ?_
                (case side1 => repeat (first | exact (Kd.N_reads' HO229.out).2.2 | (with_reducible refine Kd.C_alloc ?_ _) | (with_reducible refine Kd.C_drewN ?_ _) | (with_reducible refine Kd.C_drew ?_)))
                (case side2 => exact (Kd.N_reads' HO229.out).2.1)
                rintro e w73 ⟨rfl, hb⟩
                refine ⟨_, rfl, ?_⟩
                have n0_ := a0 (Kd.N_below (by (with_reducible repeat (first | apply Kd.N_alloc | apply Kd.N_drewN | apply Kd.N_drew)); exact HO229.out) hb)
                have n1_ := a0 (Kd.N_below (by (with_reducible repeat (first | apply Kd.N_alloc | apply Kd.N_drewN | apply Kd.N_drew)); exact HO237.out) hb)
                have n2_ := a0 (Kd.R_below (by (with_reducible repeat (first | apply rA | apply rN | apply rD)); exact HO245.out) hb)
                have n3_ := a0 (Kd.R_below (by (with_reducible repeat (first | apply rA | apply rN | apply rD)); exact HO250.out) hb)
                have n4_ := a0 (Kd.R_below (by (with_reducible repeat (first | apply rA | apply rN | apply rD)); exact HO254.out) hb)
                have n5_ := a0 (blk_below (g := gb220) (o := .cells #[.int .u64 t222, .int .u64 t223, .int .i64 t224, .int .i64 t225, .int .u64 t226, .slice Ao22 t227.length co22] 66 (0, 0)) (by (with_reducible repeat (first | apply bN | apply bD | apply bA)); exact BK220.out) hb)
                have n6_ := a0 (blk_below (g := gb221) (o := .cells #[.int .u64 t230, .int .u64 t231, .int .i64 t232, .int .i64 t233, .int .u64 t234, .slice Ao29 t235.length co29] 66 (0, 0)) (by (with_reducible repeat (first | apply bN | apply bD | apply bA)); exact BK221.out) hb)
                have n7_ := a0 (blk_below (g := gb246) (o := .cells #[.int .u64 t238, .int .u64 t239, .int .i64 t240, .int .i64 t241, .int .u64 t242, .slice Ao38 t243.length co38] 71 (0, 0)) (by (with_reducible repeat (first | apply bN | apply bD | apply bA)); exact BK246.out) hb)
                have n8_ := a0 (below_step (by repeat (first | (with_reducible first | exact HB.out | apply lA | apply lN | apply lD | refine below_set ?_ GE220.out | refine below_set ?_ GE221.out | refine below_set ?_ GE246.out) | exact HB.out)) hb)
                clear HO229
                clear HO237
                clear HO245
                clear HO250
                clear HO254
                clear BK220
                clear BK221
                clear BK246
                clear HB
                have HO229 := n0_
                have HO237 := n1_
                have HO245 := n2_
                have HO250 := n3_
                have HO254 := n4_
                have BK220 := n5_
                have BK221 := n6_
                have BK246 := n7_
                have HB := n8_
                clear n0_ n1_ n2_ n3_ n4_ n5_ n6_ n7_ n8_
                (try clear hb)
                (try clear hb2)
                (try clear hk)
                (try clear hi)
                refine hK.out _ _ ⟨(blk_cell BK220.out 0).trans rfl, (blk_cell BK220.out 1).trans rfl, (blk_cell BK220.out 2).trans rfl, (blk_cell BK220.out 3).trans rfl, (blk_cell BK220.out 4).trans rfl, (blk_cell BK220.out 5).trans rfl, (blk_cell BK246.out 0).trans rfl, (blk_cell BK246.out 1).trans rfl, (blk_cell BK246.out 2).trans rfl, (blk_cell BK246.out 3).trans rfl, (blk_cell BK246.out 4).trans rfl, (blk_cell BK246.out 5).trans rfl, (blk_cell BK221.out 0).trans rfl, (blk_cell BK221.out 1).trans rfl, (blk_cell BK221.out 2).trans rfl, (blk_cell BK221.out 3).trans rfl, (blk_cell BK221.out 4).trans rfl, (blk_cell BK221.out 5).trans rfl, (own_string (P := Try.prog) Try.underlying27 Try.underlying5 Try.underlying9 (Kd.own_of_R HO254.out))⟩ (fun hHeld => ?_)
                clear hK K
                refine norm_ (a' := ?_) ?_ ?_
                rotate_left
                · show Act.put _ (some 53) _ = _
                  simp only [Act.put, List.setIfInBounds_toArray, List.set_cons_zero, List.set_cons_succ, i64_w, i32_w]
                  rfl
                refine one_ (i := 13) (N := some 55) (tf 14 29) rfl rfl (one_of HT_.out (by kernel_rfl)) (by decide) (fun K hK => ?_)
                refine goes_ Try.func44 (by kernel_rfl) rfl #[.agg #[.int .u64 t238, .int .u64 t239, .int .i64 t240, .int .i64 t241, .int .u64 t242, .slice Ao38 t243.length co38]] (by rfl) rfl rfl (by (try simp only [List.map_toArray, List.map_cons, List.map_nil]); first | done | rfl | (simp only [List.length_drop, List.length_take]; rfl)) ?_
                with_reducible refine (prolepsisref14_Last.calls k t238 t239 t240 t241 t242 _ _ t243 t260 _ ?side1 ?side2 A50.out).mono ?_
                (case side1 => repeat (first | exact (Kd.R_reads' HO245.out).2.2 | (with_reducible refine Kd.C_alloc ?_ _) | (with_reducible refine Kd.C_drewN ?_ _) | (with_reducible refine Kd.C_drew ?_)))
                (case side2 => exact (Kd.R_reads' HO245.out).2.1)
                rintro e w74 ⟨rfl, hb⟩
                refine ⟨_, rfl, ?_⟩
                have n0_ := a0 (Kd.N_below (by (with_reducible repeat (first | apply Kd.N_alloc | apply Kd.N_drewN | apply Kd.N_drew)); exact HO229.out) hb)
                have n1_ := a0 (Kd.N_below (by (with_reducible repeat (first | apply Kd.N_alloc | apply Kd.N_drewN | apply Kd.N_drew)); exact HO237.out) hb)
                have n2_ := a0 (Kd.R_below (by (with_reducible repeat (first | apply rA | apply rN | apply rD)); exact HO245.out) hb)
                have n3_ := a0 (Kd.R_below (by (with_reducible repeat (first | apply rA | apply rN | apply rD)); exact HO250.out) hb)
                have n4_ := a0 (Kd.R_below (by (with_reducible repeat (first | apply rA | apply rN | apply rD)); exact HO254.out) hb)
                have n5_ := a0 (blk_below (g := gb220) (o := .cells #[.int .u64 t222, .int .u64 t223, .int .i64 t224, .int .i64 t225, .int .u64 t226, .slice Ao22 t227.length co22] 66 (0, 0)) (by (with_reducible repeat (first | apply bN | apply bD | apply bA)); exact BK220.out) hb)
                have n6_ := a0 (blk_below (g := gb221) (o := .cells #[.int .u64 t230, .int .u64 t231, .int .i64 t232, .int .i64 t233, .int .u64 t234, .slice Ao29 t235.length co29] 66 (0, 0)) (by (with_reducible repeat (first | apply bN | apply bD | apply bA)); exact BK221.out) hb)
                have n7_ := a0 (blk_below (g := gb246) (o := .cells #[.int .u64 t238, .int .u64 t239, .int .i64 t240, .int .i64 t241, .int .u64 t242, .slice Ao38 t243.length co38] 71 (0, 0)) (by (with_reducible repeat (first | apply bN | apply bD | apply bA)); exact BK246.out) hb)
                have n8_ := a0 (below_step (by repeat (first | (with_reducible first | exact HB.out | apply lA | apply lN | apply lD | refine below_set ?_ GE220.out | refine below_set ?_ GE221.out | refine below_set ?_ GE246.out) | exact HB.out)) hb)
                clear HO229
                clear HO237
                clear HO245
                clear HO250
                clear HO254
                clear BK220
                clear BK221
                clear BK246
                clear HB
                have HO229 := n0_
                have HO237 := n1_
                have HO245 := n2_
                have HO250 := n3_
                have HO254 := n4_
                have BK220 := n5_
                have BK221 := n6_
                have BK246 := n7_
                have HB := n8_
                clear n0_ n1_ n2_ n3_ n4_ n5_ n6_ n7_ n8_
                (try clear hb)
                (try clear hb2)
                (try clear hk)
                (try clear hi)
                refine hK.out _ _ ⟨(blk_cell BK220.out 0).trans rfl, (blk_cell BK220.out 1).trans rfl, (blk_cell BK220.out 2).trans rfl, (blk_cell BK220.out 3).trans rfl, (blk_cell BK220.out 4).trans rfl, (blk_cell BK220.out 5).trans rfl, (blk_cell BK246.out 0).trans rfl, (blk_cell BK246.out 1).trans rfl, (blk_cell BK246.out 2).trans rfl, (blk_cell BK246.out 3).trans rfl, (blk_cell BK246.out 4).trans rfl, (blk_cell BK246.out 5).trans rfl, (blk_cell BK221.out 0).trans rfl, (blk_cell BK221.out 1).trans rfl, (blk_cell BK221.out 2).trans rfl, (blk_cell BK221.out 3).trans rfl, (blk_cell BK221.out 4).trans rfl, (blk_cell BK221.out 5).trans rfl, (own_string (P := Try.prog) Try.underlying27 Try.underlying5 Try.underlying9 (Kd.own_of_R HO254.out))⟩ (fun hHeld => ?_)
                clear hK K
                refine norm_ (a' := ?_) ?_ ?_
                rotate_left
                · show Act.put _ (some 55) _ = _
                  simp only [Act.put, List.setIfInBounds_toArray, List.set_cons_zero, List.set_cons_succ, i64_w, i32_w]
                  rfl
                refine pure_ (i := 14) (N := some 56) (v := ?_) (a' := ?_) (tf 15 28) rfl rfl (any_of HT_.out (by kernel_rfl)) (fun _ _ _ h => h) (Or.inl ⟨by rfl, ?_⟩) ?_ ?_
                rotate_left
                · intro w'
                  go_simp
                  with_reducible rfl
                rotate_left
                · simp only [Act.put, List.setIfInBounds_toArray, List.set_cons_zero, List.set_cons_succ, i64_w, i32_w]
                  rfl
                refine pure_ (i := 15) (N := some 57) (v := ?_) (a' := ?_) (tf 16 27) rfl rfl (any_of HT_.out (by kernel_rfl)) (fun _ _ _ h => h) (Or.inl ⟨by rfl, ?_⟩) ?_ ?_
                rotate_left
                · intro w'
                  go_simp
                  with_reducible rfl
                rotate_left
                · simp only [Act.put, List.setIfInBounds_toArray, List.set_cons_zero, List.set_cons_succ, i64_w, i32_w]
                  rfl
                refine pure_ (i := 16) (N := some 58) (v := ?_) (a' := ?_) (tf 17 26) rfl rfl (any_of HT_.out (by kernel_rfl)) (fun _ _ _ h => h) (Or.inl ⟨by rfl, ?_⟩) ?_ ?_
                rotate_left
                · intro w'
                  go_simp
                  with_reducible rfl
                rotate_left
                · simp only [Act.put, List.setIfInBounds_toArray, List.set_cons_zero, List.set_cons_succ, i64_w, i32_w]
                  rfl
                refine pure_ (i := 17) (N := some 59) (v := ?_) (a' := ?_) (tf 18 25) rfl rfl (any_of HT_.out (by kernel_rfl)) (fun _ _ _ h => h) (Or.inl ⟨by rfl, ?_⟩) ?_ ?_
                rotate_left
                · intro w'
                  go_simp
                  with_reducible rfl
                rotate_left
                · simp only [Act.put, List.setIfInBounds_toArray, List.set_cons_zero, List.set_cons_succ, i64_w, i32_w]
                  rfl
                refine pure_ (i := 19) (N := some 61) (v := ?_) (a' := ?_) #[true, true, true, true, true, true, true, true, true, true, true, true, true, true, true, true, true, true, false, true, false, false, false, false, false, false, false, false, false, false, false, false, false, false, false, false, false, false, false, false, false, false, false] rfl rfl (any_of HT_.out (by kernel_rfl)) (fun _ _ _ h => h) (Or.inl ⟨by rfl, ?_⟩) ?_ ?_
                rotate_left
                · intro w'
                  go_simp
                  with_reducible rfl
                rotate_left
                · simp only [Act.put, List.setIfInBounds_toArray, List.set_cons_zero, List.set_cons_succ, i64_w, i32_w]
                  rfl
                refine take_ (i := 18) (N := some 60) (v := ?_) (a' := ?_) (tf 20 23) rfl rfl (take_ofW HT_.out HW_.out (by kernel_rfl)) (fun _ _ _ h => h) (Or.inl ⟨by rfl, ?_⟩) hHeld ?_ ?_
                rotate_left
                · rintro w' ⟨s0, s1, s2, s3, s4, s5, s6, s7, s8, s9, s10, s11, s12, s13, s14, s15, s16, s17, s18⟩
                  go_simp
                  with_reducible rfl
                rotate_left
                · simp only [Act.put, List.setIfInBounds_toArray, List.set_cons_zero, List.set_cons_succ, i64_w, i32_w]
                  rfl
                refine pure_ (i := 20) (N := some 62) (v := ?_) (a' := ?_) (tf 21 22) rfl rfl (any_of HT_.out (by kernel_rfl)) (fun _ _ _ h => h) (Or.inl ⟨by rfl, ?_⟩) ?_ ?_
                rotate_left
                · intro w'
                  go_simp
                  with_reducible rfl
                rotate_left
                · simp only [Act.put, List.setIfInBounds_toArray, List.set_cons_zero, List.set_cons_succ, i64_w, i32_w]
                  rfl
                refine pure_ (i := 21) (N := some 63) (v := ?_) (a' := ?_) (tf 22 21) rfl rfl (any_of HT_.out (by kernel_rfl)) (fun _ _ _ h => h) (Or.inl ⟨by rfl, ?_⟩) ?_ ?_
                rotate_left
                · intro w'
                  go_simp
                  with_reducible rfl
                rotate_left
                · simp only [Act.put, List.setIfInBounds_toArray, List.set_cons_zero, List.set_cons_succ, i64_w, i32_w]
                  rfl
                refine pure_ (i := 22) (N := some 64) (v := ?_) (a' := ?_) (tf 23 20) rfl rfl (any_of HT_.out (by kernel_rfl)) (fun _ _ _ h => h) (Or.inl ⟨by rfl, ?_⟩) ?_ ?_
                rotate_left
                · intro w'
                  go_simp
                  with_reducible rfl
                rotate_left
                · simp only [Act.put, List.setIfInBounds_toArray, List.set_cons_zero, List.set_cons_succ, i64_w, i32_w]
                  rfl
                refine pure_ (i := 23) (N := some 65) (v := ?_) (a' := ?_) (tf 24 19) rfl rfl (any_of HT_.out (by kernel_rfl)) (fun _ _ _ h => h) (Or.inl ⟨by rfl, ?_⟩) ?_ ?_
                rotate_left
                · intro w'
                  go_simp
                  with_reducible rfl
                rotate_left
                · simp only [Act.put, List.setIfInBounds_toArray, List.set_cons_zero, List.set_cons_succ, i64_w, i32_w]
                  rfl
                refine pure_ (i := 24) (N := some 66) (v := ?_) (a' := ?_) (tf 25 18) rfl rfl (any_of HT_.out (by kernel_rfl)) (fun _ _ _ h => h) (Or.inl ⟨by rfl, ?_⟩) ?_ ?_
                rotate_left
                · intro w'
                  go_simp
                  with_reducible rfl
                rotate_left
                · simp only [Act.put, List.setIfInBounds_toArray, List.set_cons_zero, List.set_cons_succ, i64_w, i32_w]
                  rfl
                refine pure_ (i := 25) (N := some 67) (v := ?_) (a' := ?_) (tf 26 17) rfl rfl (any_of HT_.out (by kernel_rfl)) (fun _ _ _ h => h) (Or.inl ⟨by rfl, ?_⟩) ?_ ?_
                rotate_left
                · intro w'
                  go_simp
                  with_reducible rfl
                rotate_left
                · simp only [Act.put, List.setIfInBounds_toArray, List.set_cons_zero, List.set_cons_succ, i64_w, i32_w]
                  rfl
                refine pure_ (i := 26) (N := some 68) (v := ?_) (a' := ?_) (tf 27 16) rfl rfl (any_of HT_.out (by kernel_rfl)) (fun _ _ _ h => h) (Or.inl ⟨by rfl, ?_⟩) ?_ ?_
                rotate_left
                · intro w'
                  go_simp
                  with_reducible rfl
                rotate_left
                · simp only [Act.put, List.setIfInBounds_toArray, List.set_cons_zero, List.set_cons_succ, i64_w, i32_w]
                  rfl
                refine pure_ (i := 27) (N := some 69) (v := ?_) (a' := ?_) (tf 28 15) rfl rfl (any_of HT_.out (by kernel_rfl)) (fun _ _ _ h => h) (Or.inl ⟨by rfl, ?_⟩) ?_ ?_
                rotate_left
                · intro w'
                  go_simp
                  with_reducible rfl
                rotate_left
                · simp only [Act.put, List.setIfInBounds_toArray, List.set_cons_zero, List.set_cons_succ, i64_w, i32_w]
                  rfl
                refine take_ (i := 28) (N := some 70) (v := ?_) (a' := ?_) (tf 29 14) rfl rfl (take_ofW HT_.out HW_.out (by kernel_rfl)) (fun _ _ _ h => h) (Or.inl ⟨by rfl, ?_⟩) hHeld ?_ ?_
                rotate_left
                · rintro w' ⟨s0, s1, s2, s3, s4, s5, s6, s7, s8, s9, s10, s11, s12, s13, s14, s15, s16, s17, s18⟩
                  go_simp
                  with_reducible rfl
                rotate_left
                · simp only [Act.put, List.setIfInBounds_toArray, List.set_cons_zero, List.set_cons_succ, i64_w, i32_w]
                  rfl
                refine take_ (i := 29) (N := some 71) (v := ?_) (a' := ?_) (tf 30 13) rfl rfl (take_ofW HT_.out HW_.out (by kernel_rfl)) (fun _ _ _ h => h) (Or.inl ⟨by rfl, ?_⟩) hHeld ?_ ?_
                rotate_left
                · rintro w' ⟨s0, s1, s2, s3, s4, s5, s6, s7, s8, s9, s10, s11, s12, s13, s14, s15, s16, s17, s18⟩
                  go_simp
                  with_reducible rfl
                rotate_left
                · simp only [Act.put, List.setIfInBounds_toArray, List.set_cons_zero, List.set_cons_succ, i64_w, i32_w]
                  rfl
                refine take_ (i := 31) (N := some 73) (v := ?_) (a' := ?_) #[true, true, true, true, true, true, true, true, true, true, true, true, true, true, true, true, true, true, true, true, true, true, true, true, true, true, true, true, true, true, false, true, false, false, false, false, false, false, false, false, false, false, false] rfl rfl (take_ofW HT_.out HW_.out (by kernel_rfl)) (fun _ _ _ h => h) (Or.inl ⟨by rfl, ?_⟩) hHeld ?_ ?_
                rotate_left
                · rintro w' ⟨s0, s1, s2, s3, s4, s5, s6, s7, s8, s9, s10, s11, s12, s13, s14, s15, s16, s17, s18⟩
                  go_simp
                  with_reducible rfl
                rotate_left
                · simp only [Act.put, List.setIfInBounds_toArray, List.set_cons_zero, List.set_cons_succ, i64_w, i32_w]
                  rfl
                refine take_ (i := 32) (N := some 74) (v := ?_) (a' := ?_) #[true, true, true, true, true, true, true, true, true, true, true, true, true, true, true, true, true, true, true, true, true, true, true, true, true, true, true, true, true, true, false, true, true, false, false, false, false, false, false, false, false, false, false] rfl rfl (take_ofW HT_.out HW_.out (by kernel_rfl)) (fun _ _ _ h => h) (Or.inl ⟨by rfl, ?_⟩) hHeld ?_ ?_
                rotate_left
                · rintro w' ⟨s0, s1, s2, s3, s4, s5, s6, s7, s8, s9, s10, s11, s12, s13, s14, s15, s16, s17, s18⟩
                  go_simp
                  with_reducible rfl
                rotate_left
                · simp only [Act.put, List.setIfInBounds_toArray, List.set_cons_zero, List.set_cons_succ, i64_w, i32_w]
                  rfl
                refine one_ (i := 30) (N := some 72) (tf 33 10) rfl rfl (one_of HT_.out (by kernel_rfl)) (by decide) (fun K hK => ?_)
                refine goes_ Try.func50 (by kernel_rfl) rfl #[.agg #[.int .u64 t222, .int .u64 t223, .int .i64 t224, .int .i64 t225, .int .u64 t226, .slice Ao22 t227.length co22], .agg #[.int .u64 t230, .int .u64 t231, .int .i64 t232, .int .i64 t233, .int .u64 t234, .slice Ao29 t235.length co29]] (by rfl) rfl rfl (by (try simp only [List.map_toArray, List.map_cons, List.map_nil]); first | done | rfl | (simp only [List.length_drop, List.length_take]; rfl)) ?_
                with_reducible refine (keygram_Same.calls t222 t223 t224 t225 t226 _ _ t227 t230 t231 t232 t233 t234 _ _ t235 t261 _ ?side1 ?side2 ?side3 ?side4 A58.out).mono ?_
                (case side1 => repeat (first | exact (Kd.N_reads' HO229.out).2.2 | (with_reducible refine Kd.C_alloc ?_ _) | (with_reducible refine Kd.C_drewN ?_ _) | (with_reducible refine Kd.C_drew ?_)))
                (case side2 => exact (Kd.N_reads' HO229.out).2.1)
                (case side3 => repeat (first | exact (Kd.N_reads' HO237.out).2.2 | (with_reducible refine Kd.C_alloc ?_ _) | (with_reducible refine Kd.C_drewN ?_ _) | (with_reducible refine Kd.C_drew ?_)))
                (case side4 => exact (Kd.N_reads' HO237.out).2.1)
                rintro e w75 ⟨rfl, hb⟩
                refine ⟨_, rfl, ?_⟩
                have n0_ := a0 (Kd.N_below (by (with_reducible repeat (first | apply Kd.N_alloc | apply Kd.N_drewN | apply Kd.N_drew)); exact HO229.out) hb)
                have n1_ := a0 (Kd.N_below (by (with_reducible repeat (first | apply Kd.N_alloc | apply Kd.N_drewN | apply Kd.N_drew)); exact HO237.out) hb)
                have n2_ := a0 (Kd.R_below (by (with_reducible repeat (first | apply rA | apply rN | apply rD)); exact HO245.out) hb)
                have n3_ := a0 (Kd.R_below (by (with_reducible repeat (first | apply rA | apply rN | apply rD)); exact HO250.out) hb)
                have n4_ := a0 (Kd.R_below (by (with_reducible repeat (first | apply rA | apply rN | apply rD)); exact HO254.out) hb)
                have n5_ := a0 (blk_below (g := gb220) (o := .cells #[.int .u64 t222, .int .u64 t223, .int .i64 t224, .int .i64 t225, .int .u64 t226, .slice Ao22 t227.length co22] 66 (0, 0)) (by (with_reducible repeat (first | apply bN | apply bD | apply bA)); exact BK220.out) hb)
                have n6_ := a0 (blk_below (g := gb221) (o := .cells #[.int .u64 t230, .int .u64 t231, .int .i64 t232, .int .i64 t233, .int .u64 t234, .slice Ao29 t235.length co29] 66 (0, 0)) (by (with_reducible repeat (first | apply bN | apply bD | apply bA)); exact BK221.out) hb)
                have n7_ := a0 (blk_below (g := gb246) (o := .cells #[.int .u64 t238, .int .u64 t239, .int .i64 t240, .int .i64 t241, .int .u64 t242, .slice Ao38 t243.length co38] 71 (0, 0)) (by (with_reducible repeat (first | apply bN | apply bD | apply bA)); exact BK246.out) hb)
                have n8_ := a0 (below_step (by repeat (first | (with_reducible first | exact HB.out | apply lA | apply lN | apply lD | refine below_set ?_ GE220.out | refine below_set ?_ GE221.out | refine below_set ?_ GE246.out) | exact HB.out)) hb)
                clear HO229
                clear HO237
                clear HO245
                clear HO250
                clear HO254
                clear BK220
                clear BK221
                clear BK246
                clear HB
                have HO229 := n0_
                have HO237 := n1_
                have HO245 := n2_
                have HO250 := n3_
                have HO254 := n4_
                have BK220 := n5_
                have BK221 := n6_
                have BK246 := n7_
                have HB := n8_
                clear n0_ n1_ n2_ n3_ n4_ n5_ n6_ n7_ n8_
                (try clear hb)
                (try clear hb2)
                (try clear hk)
                (try clear hi)
                refine hK.out _ _ ⟨(blk_cell BK220.out 0).trans rfl, (blk_cell BK220.out 1).trans rfl, (blk_cell BK220.out 2).trans rfl, (blk_cell BK220.out 3).trans rfl, (blk_cell BK220.out 4).trans rfl, (blk_cell BK220.out 5).trans rfl, (blk_cell BK246.out 0).trans rfl, (blk_cell BK246.out 1).trans rfl, (blk_cell BK246.out 2).trans rfl, (blk_cell BK246.out 3).trans rfl, (blk_cell BK246.out 4).trans rfl, (blk_cell BK246.out 5).trans rfl, (blk_cell BK221.out 0).trans rfl, (blk_cell BK221.out 1).trans rfl, (blk_cell BK221.out 2).trans rfl, (blk_cell BK221.out 3).trans rfl, (blk_cell BK221.out 4).trans rfl, (blk_cell BK221.out 5).trans rfl, (own_string (P := Try.prog) Try.underlying27 Try.underlying5 Try.underlying9 (Kd.own_of_R HO254.out))⟩ (fun hHeld => ?_)
                clear hK K
                refine norm_ (a' := ?_) ?_ ?_
                rotate_left
                · show Act.put _ (some 72) _ = _
                  simp only [Act.put, List.setIfInBounds_toArray, List.set_cons_zero, List.set_cons_succ, i64_w, i32_w]
                  rfl
                refine one_ (i := 33) (N := some 75) (tf 34 9) rfl rfl (one_of HT_.out (by kernel_rfl)) (by decide) (fun K hK => ?_)
                refine goes_ Try.func42 (by kernel_rfl) rfl #[.agg #[.int .u64 t230, .int .u64 t231, .int .i64 t232, .int .i64 t233, .int .u64 t234, .slice Ao29 t235.length co29]] (by rfl) rfl rfl (by (try simp only [List.map_toArray, List.map_cons, List.map_nil]); first | done | rfl | (simp only [List.length_drop, List.length_take]; rfl)) ?_
                with_reducible refine (prolepsislaw14_Of.calls k t230 t231 t232 t233 t234 _ _ t235 t262 t263 t264 t265 t266 t267 _ ?side1 ?side2 A59.out).mono ?_
                (case side1 => repeat (first | exact (Kd.N_reads' HO237.out).2.2 | (with_reducible refine Kd.C_alloc ?_ _) | (with_reducible refine Kd.C_drewN ?_ _) | (with_reducible refine Kd.C_drew ?_)))
                (case side2 => exact (Kd.N_reads' HO237.out).2.1)
                rintro e w76 ⟨v268, rfl, ho0, hb⟩
                refine ⟨_, rfl, ?_⟩
                have n0_ := a0 (Kd.N_elder' (by (with_reducible repeat (first | apply Kd.N_alloc | apply Kd.N_drewN | apply Kd.N_drew)); exact HO229.out) (Kd.R_base ho0) hb)
                have n1_ := a0 (Kd.N_elder' (by (with_reducible repeat (first | apply Kd.N_alloc | apply Kd.N_drewN | apply Kd.N_drew)); exact HO237.out) (Kd.R_base ho0) hb)
                have n2_ := a0 (Kd.R_elder' (by (with_reducible repeat (first | apply rA | apply rN | apply rD)); exact HO245.out) (Kd.R_base ho0) hb)
                have n3_ := a0 (Kd.R_below (by (with_reducible repeat (first | apply rA | apply rN | apply rD)); exact HO250.out) hb)
                have n4_ := a0 (Kd.R_below (by (with_reducible repeat (first | apply rA | apply rN | apply rD)); exact HO254.out) hb)
                have n5_ := a0 (Kd.R_lower (Kd.R_new' ho0 (Kd.R_lt (by (with_reducible repeat (first | apply rA | apply rN | apply rD)); exact HO245.out))) (below_size (by repeat (first | (with_reducible first | exact HB.out | apply lA | apply lN | apply lD | refine below_set ?_ GE220.out | refine below_set ?_ GE221.out | refine below_set ?_ GE246.out) | exact HB.out))))
                have n6_ := a0 (blk_below (g := gb220) (o := .cells #[.int .u64 t222, .int .u64 t223, .int .i64 t224, .int .i64 t225, .int .u64 t226, .slice Ao22 t227.length co22] 66 (0, 0)) (by (with_reducible repeat (first | apply bN | apply bD | apply bA)); exact BK220.out) hb)
                have n7_ := a0 (blk_below (g := gb221) (o := .cells #[.int .u64 t230, .int .u64 t231, .int .i64 t232, .int .i64 t233, .int .u64 t234, .slice Ao29 t235.length co29] 66 (0, 0)) (by (with_reducible repeat (first | apply bN | apply bD | apply bA)); exact BK221.out) hb)
                have n8_ := a0 (blk_below (g := gb246) (o := .cells #[.int .u64 t238, .int .u64 t239, .int .i64 t240, .int .i64 t241, .int .u64 t242, .slice Ao38 t243.length co38] 71 (0, 0)) (by (with_reducible repeat (first | apply bN | apply bD | apply bA)); exact BK246.out) hb)
                have n9_ := a0 (below_step (by repeat (first | (with_reducible first | exact HB.out | apply lA | apply lN | apply lD | refine below_set ?_ GE220.out | refine below_set ?_ GE221.out | refine below_set ?_ GE246.out) | exact HB.out)) hb)
                clear HO229
                clear HO237
                clear HO245
                clear HO250
                clear HO254
                clear BK220
                clear BK221
                clear BK246
                clear HB
                have HO229 := n0_
                have HO237 := n1_
                have HO245 := n2_
                have HO250 := n3_
                have HO254 := n4_
                have HO269 := n5_
                have BK220 := n6_
                have BK221 := n7_
                have BK246 := n8_
                have HB := n9_
                clear n0_ n1_ n2_ n3_ n4_ n5_ n6_ n7_ n8_ n9_
                (try clear hb)
                (try clear hb2)
                (try clear hk)
                (try clear hi)
                (try clear ho0)
                obtain ⟨Ao77, co77, eo77⟩ := Kd.R_slice HO269.out
                (first | subst eo77 | (injection eo77 with f1_ f2_ f3_; have f4_ := f1_.symm; have f5_ := f3_.symm; clear f1_ f2_ f3_; subst f4_; subst f5_))
                refine hK.out _ _ ⟨(blk_cell BK220.out 0).trans rfl, (blk_cell BK220.out 1).trans rfl, (blk_cell BK220.out 2).trans rfl, (blk_cell BK220.out 3).trans rfl, (blk_cell BK220.out 4).trans rfl, (blk_cell BK220.out 5).trans rfl, (blk_cell BK246.out 0).trans rfl, (blk_cell BK246.out 1).trans rfl, (blk_cell BK246.out 2).trans rfl, (blk_cell BK246.out 3).trans rfl, (blk_cell BK246.out 4).trans rfl, (blk_cell BK246.out 5).trans rfl, (blk_cell BK221.out 0).trans rfl, (blk_cell BK221.out 1).trans rfl, (blk_cell BK221.out 2).trans rfl, (blk_cell BK221.out 3).trans rfl, (blk_cell BK221.out 4).trans rfl, (blk_cell BK221.out 5).trans rfl, (own_string (P := Try.prog) Try.underlying27 Try.underlying5 Try.underlying9 (Kd.own_of_R HO254.out))⟩ (fun hHeld => ?_)
                clear hK K
                refine norm_ (a' := ?_) ?_ ?_
                rotate_left
                · show Act.put _ (some 75) _ = _
                  simp only [Act.put, List.setIfInBounds_toArray, List.set_cons_zero, List.set_cons_succ, i64_w, i32_w]
                  rfl
                refine one_ (i := 34) (N := some 76) (tf 35 8) rfl rfl (one_of HT_.out (by kernel_rfl)) (by decide) (fun K hK => ?_)
                refine goes_ Try.func47 (by kernel_rfl) rfl #[.agg #[.int .u64 t238, .int .u64 t239, .int .i64 t240, .int .i64 t241, .int .u64 t242, .slice Ao38 t243.length co38], .agg #[.int .u64 t262, .int .u64 t263, .int .i64 t264, .int .i64 t265, .int .u64 t266, .slice Ao77 t267.length co77]] (by rfl) rfl rfl (by (try simp only [List.map_toArray, List.map_cons, List.map_nil]); first | done | rfl | (simp only [List.length_drop, List.length_take]; rfl)) ?_
                with_reducible refine (prolepsisref14_Same.calls k t238 t239 t240 t241 t242 _ _ t243 t262 t263 t264 t265 t266 _ _ t267 t270 _ ?side1 ?side2 ?side3 ?side4 A60.out).mono ?_
                (case side1 => repeat (first | exact (Kd.R_reads' HO245.out).2.2 | (with_reducible refine Kd.C_alloc ?_ _) | (with_reducible refine Kd.C_drewN ?_ _) | (with_reducible refine Kd.C_drew ?_)))
                (case side2 => exact (Kd.R_reads' HO245.out).2.1)
                (case side3 => repeat (first | exact (Kd.R_reads' HO269.out).2.2 | (with_reducible refine Kd.C_alloc ?_ _) | (with_reducible refine Kd.C_drewN ?_ _) | (with_reducible refine Kd.C_drew ?_)))
                (case side4 => exact (Kd.R_reads' HO269.out).2.1)
                rintro e w78 ⟨rfl, hb⟩
                refine ⟨_, rfl, ?_⟩
                have n0_ := a0 (Kd.N_below (by (with_reducible repeat (first | apply Kd.N_alloc | apply Kd.N_drewN | apply Kd.N_drew)); exact HO229.out) hb)
                have n1_ := a0 (Kd.N_below (by (with_reducible repeat (first | apply Kd.N_alloc | apply Kd.N_drewN | apply Kd.N_drew)); exact HO237.out) hb)
                have n2_ := a0 (Kd.R_below (by (with_reducible repeat (first | apply rA | apply rN | apply rD)); exact HO245.out) hb)
                have n3_ := a0 (Kd.R_below (by (with_reducible repeat (first | apply rA | apply rN | apply rD)); exact HO250.out) hb)
                have n4_ := a0 (Kd.R_below (by (with_reducible repeat (first | apply rA | apply rN | apply rD)); exact HO254.out) hb)
                have n5_ := a0 (Kd.R_below (by (with_reducible repeat (first | apply rA | apply rN | apply rD)); exact HO269.out) hb)
                have n6_ := a0 (blk_below (g := gb220) (o := .cells #[.int .u64 t222, .int .u64 t223, .int .i64 t224, .int .i64 t225, .int .u64 t226, .slice Ao22 t227.length co22] 66 (0, 0)) (by (with_reducible repeat (first | apply bN | apply bD | apply bA)); exact BK220.out) hb)
                have n7_ := a0 (blk_below (g := gb221) (o := .cells #[.int .u64 t230, .int .u64 t231, .int .i64 t232, .int .i64 t233, .int .u64 t234, .slice Ao29 t235.length co29] 66 (0, 0)) (by (with_reducible repeat (first | apply bN | apply bD | apply bA)); exact BK221.out) hb)
                have n8_ := a0 (blk_below (g := gb246) (o := .cells #[.int .u64 t238, .int .u64 t239, .int .i64 t240, .int .i64 t241, .int .u64 t242, .slice Ao38 t243.length co38] 71 (0, 0)) (by (with_reducible repeat (first | apply bN | apply bD | apply bA)); exact BK246.out) hb)
                have n9_ := a0 (below_step (by repeat (first | (with_reducible first | exact HB.out | apply lA | apply lN | apply lD | refine below_set ?_ GE220.out | refine below_set ?_ GE221.out | refine below_set ?_ GE246.out) | exact HB.out)) hb)
                clear HO229
                clear HO237
                clear HO245
                clear HO250
                clear HO254
                clear HO269
                clear BK220
                clear BK221
                clear BK246
                clear HB
                have HO229 := n0_
                have HO237 := n1_
                have HO245 := n2_
                have HO250 := n3_
                have HO254 := n4_
                have HO269 := n5_
                have BK220 := n6_
                have BK221 := n7_
                have BK246 := n8_
                have HB := n9_
                clear n0_ n1_ n2_ n3_ n4_ n5_ n6_ n7_ n8_ n9_
                (try clear hb)
                (try clear hb2)
                (try clear hk)
                (try clear hi)
                refine hK.out _ _ ⟨(blk_cell BK220.out 0).trans rfl, (blk_cell BK220.out 1).trans rfl, (blk_cell BK220.out 2).trans rfl, (blk_cell BK220.out 3).trans rfl, (blk_cell BK220.out 4).trans rfl, (blk_cell BK220.out 5).trans rfl, (blk_cell BK246.out 0).trans rfl, (blk_cell BK246.out 1).trans rfl, (blk_cell BK246.out 2).trans rfl, (blk_cell BK246.out 3).trans rfl, (blk_cell BK246.out 4).trans rfl, (blk_cell BK246.out 5).trans rfl, (blk_cell BK221.out 0).trans rfl, (blk_cell BK221.out 1).trans rfl, (blk_cell BK221.out 2).trans rfl, (blk_cell BK221.out 3).trans rfl, (blk_cell BK221.out 4).trans rfl, (blk_cell BK221.out 5).trans rfl, (own_string (P := Try.prog) Try.underlying27 Try.underlying5 Try.underlying9 (Kd.own_of_R HO254.out))⟩ (fun hHeld => ?_)
                clear hK K
                refine norm_ (a' := ?_) ?_ ?_
                rotate_left
                · show Act.put _ (some 76) _ = _
                  simp only [Act.put, List.setIfInBounds_toArray, List.set_cons_zero, List.set_cons_succ, i64_w, i32_w]
                  rfl
                refine pure_ (i := 35) (N := some 77) (v := ?_) (a' := ?_) (tf 36 7) rfl rfl (any_of HT_.out (by kernel_rfl)) (fun _ _ _ h => h) (Or.inl ⟨by rfl, ?_⟩) ?_ ?_
                rotate_left
                · intro w'
                  go_simp
                  with_reducible rfl
                rotate_left
                · simp only [Act.put, List.setIfInBounds_toArray, List.set_cons_zero, List.set_cons_succ, i64_w, i32_w]
                  rfl
                refine pure_ (i := 36) (N := some 78) (v := ?_) (a' := ?_) (tf 37 6) rfl rfl (any_of HT_.out (by kernel_rfl)) (fun _ _ _ h => h) (Or.inl ⟨by rfl, ?_⟩) ?_ ?_
                rotate_left
                · intro w'
                  go_simp
                  with_reducible rfl
                rotate_left
                · simp only [Act.put, List.setIfInBounds_toArray, List.set_cons_zero, List.set_cons_succ, i64_w, i32_w]
                  rfl
                refine pure_ (i := 37) (N := some 79) (v := ?_) (a' := ?_) (tf 38 5) rfl rfl (any_of HT_.out (by kernel_rfl)) (fun _ _ _ h => h) (Or.inl ⟨by rfl, ?_⟩) ?_ ?_
                rotate_left
                · intro w'
                  go_simp
                  with_reducible rfl
                rotate_left
                · simp only [Act.put, List.setIfInBounds_toArray, List.set_cons_zero, List.set_cons_succ, i64_w, i32_w]
                  rfl
                refine take_ (i := 38) (N := some 80) (v := ?_) (a' := ?_) (tf 39 4) rfl rfl (take_ofW HT_.out HW_.out (by kernel_rfl)) (fun _ _ _ h => h) (Or.inl ⟨by rfl, ?_⟩) hHeld ?_ ?_
                rotate_left
                · rintro w' ⟨s0, s1, s2, s3, s4, s5, s6, s7, s8, s9, s10, s11, s12, s13, s14, s15, s16, s17, s18⟩
                  go_simp
                  with_reducible rfl
                rotate_left
                · simp only [Act.put, List.setIfInBounds_toArray, List.set_cons_zero, List.set_cons_succ, i64_w, i32_w]
                  rfl
                refine take_ (i := 39) (N := some 81) (v := ?_) (a' := ?_) (tf 40 3) rfl rfl (take_ofW HT_.out HW_.out (by kernel_rfl)) (fun _ _ _ h => h) (Or.inl ⟨by rfl, ?_⟩) hHeld ?_ ?_
                rotate_left
                · rintro w' ⟨s0, s1, s2, s3, s4, s5, s6, s7, s8, s9, s10, s11, s12, s13, s14, s15, s16, s17, s18⟩
                  go_simp
                  with_reducible rfl
                rotate_left
                · simp only [Act.put, List.setIfInBounds_toArray, List.set_cons_zero, List.set_cons_succ, i64_w, i32_w]
                  rfl
                refine one_ (i := 40) (N := some 82) (tf 41 2) rfl rfl (one_of HT_.out (by kernel_rfl)) (by decide) (fun K hK => ?_)
                refine goes_ Try.func50 (by kernel_rfl) rfl #[.agg #[.int .u64 t222, .int .u64 t223, .int .i64 t224, .int .i64 t225, .int .u64 t226, .slice Ao22 t227.length co22], .agg #[.int .u64 t222, .int .u64 t223, .int .i64 t224, .int .i64 t225, .int .u64 t226, .slice Ao22 t227.length co22]] (by rfl) rfl rfl (by (try simp only [List.map_toArray, List.map_cons, List.map_nil]); first | done | rfl | (simp only [List.length_drop, List.length_take]; rfl)) ?_
                with_reducible refine (keygram_Same.calls t222 t223 t224 t225 t226 _ _ t227 t222 t223 t224 t225 t226 _ _ t227 t271 _ ?side1 ?side2 ?side3 ?side4 A70.out).mono ?_
                (case side1 => repeat (first | exact (Kd.N_reads' HO229.out).2.2 | (with_reducible refine Kd.C_alloc ?_ _) | (with_reducible refine Kd.C_drewN ?_ _) | (with_reducible refine Kd.C_drew ?_)))
                (case side2 => exact (Kd.N_reads' HO229.out).2.1)
                (case side3 => repeat (first | exact (Kd.N_reads' HO229.out).2.2 | (with_reducible refine Kd.C_alloc ?_ _) | (with_reducible refine Kd.C_drewN ?_ _) | (with_reducible refine Kd.C_drew ?_)))
                (case side4 => exact (Kd.N_reads' HO229.out).2.1)
                rintro e w79 ⟨rfl, hb⟩
                refine ⟨_, rfl, ?_⟩
                have n0_ := a0 (Kd.N_below (by (with_reducible repeat (first | apply Kd.N_alloc | apply Kd.N_drewN | apply Kd.N_drew)); exact HO229.out) hb)
                have n1_ := a0 (Kd.N_below (by (with_reducible repeat (first | apply Kd.N_alloc | apply Kd.N_drewN | apply Kd.N_drew)); exact HO237.out) hb)
                have n2_ := a0 (Kd.R_below (by (with_reducible repeat (first | apply rA | apply rN | apply rD)); exact HO245.out) hb)
                have n3_ := a0 (Kd.R_below (by (with_reducible repeat (first | apply rA | apply rN | apply rD)); exact HO250.out) hb)
                have n4_ := a0 (Kd.R_below (by (with_reducible repeat (first | apply rA | apply rN | apply rD)); exact HO254.out) hb)
                have n5_ := a0 (Kd.R_below (by (with_reducible repeat (first | apply rA | apply rN | apply rD)); exact HO269.out) hb)
                have n6_ := a0 (blk_below (g := gb220) (o := .cells #[.int .u64 t222, .int .u64 t223, .int .i64 t224, .int .i64 t225, .int .u64 t226, .slice Ao22 t227.length co22] 66 (0, 0)) (by (with_reducible repeat (first | apply bN | apply bD | apply bA)); exact BK220.out) hb)
                have n7_ := a0 (blk_below (g := gb221) (o := .cells #[.int .u64 t230, .int .u64 t231, .int .i64 t232, .int .i64 t233, .int .u64 t234, .slice Ao29 t235.length co29] 66 (0, 0)) (by (with_reducible repeat (first | apply bN | apply bD | apply bA)); exact BK221.out) hb)
                have n8_ := a0 (blk_below (g := gb246) (o := .cells #[.int .u64 t238, .int .u64 t239, .int .i64 t240, .int .i64 t241, .int .u64 t242, .slice Ao38 t243.length co38] 71 (0, 0)) (by (with_reducible repeat (first | apply bN | apply bD | apply bA)); exact BK246.out) hb)
                have n9_ := a0 (below_step (by repeat (first | (with_reducible first | exact HB.out | apply lA | apply lN | apply lD | refine below_set ?_ GE220.out | refine below_set ?_ GE221.out | refine below_set ?_ GE246.out) | exact HB.out)) hb)
                clear HO229
                clear HO237
                clear HO245
                clear HO250
                clear HO254
                clear HO269
                clear BK220
                clear BK221
                clear BK246
                clear HB
                have HO229 := n0_
                have HO237 := n1_
                have HO245 := n2_
                have HO250 := n3_
                have HO254 := n4_
                have HO269 := n5_
                have BK220 := n6_
                have BK221 := n7_
                have BK246 := n8_
                have HB := n9_
                clear n0_ n1_ n2_ n3_ n4_ n5_ n6_ n7_ n8_ n9_
                (try clear hb)
                (try clear hb2)
                (try clear hk)
                (try clear hi)
                refine hK.out _ _ ⟨(blk_cell BK220.out 0).trans rfl, (blk_cell BK220.out 1).trans rfl, (blk_cell BK220.out 2).trans rfl, (blk_cell BK220.out 3).trans rfl, (blk_cell BK220.out 4).trans rfl, (blk_cell BK220.out 5).trans rfl, (blk_cell BK246.out 0).trans rfl, (blk_cell BK246.out 1).trans rfl, (blk_cell BK246.out 2).trans rfl, (blk_cell BK246.out 3).trans rfl, (blk_cell BK246.out 4).trans rfl, (blk_cell BK246.out 5).trans rfl, (blk_cell BK221.out 0).trans rfl, (blk_cell BK221.out 1).trans rfl, (blk_cell BK221.out 2).trans rfl, (blk_cell BK221.out 3).trans rfl, (blk_cell BK221.out 4).trans rfl, (blk_cell BK221.out 5).trans rfl, (own_string (P := Try.prog) Try.underlying27 Try.underlying5 Try.underlying9 (Kd.own_of_R HO254.out))⟩ (fun hHeld => ?_)
                clear hK K
                refine norm_ (a' := ?_) ?_ ?_
                rotate_left
                · show Act.put _ (some 82) _ = _
                  simp only [Act.put, List.setIfInBounds_toArray, List.set_cons_zero, List.set_cons_succ, i64_w, i32_w]
                  rfl
                refine pure_ (i := 41) (N := some 83) (v := ?_) (a' := ?_) (tf 42 1) rfl rfl (any_of HT_.out (by kernel_rfl)) (fun _ _ _ h => h) (Or.inl ⟨by rfl, ?_⟩) ?_ ?_
                rotate_left
                · intro w'
                  go_simp
                  with_reducible rfl
                rotate_left
                · simp only [Act.put, List.setIfInBounds_toArray, List.set_cons_zero, List.set_cons_succ, i64_w, i32_w]
                  rfl
                refine pure_ (i := 42) (N := some 84) (v := ?_) (a' := ?_) (tf 43 0) rfl rfl (any_of HT_.out (by kernel_rfl)) (fun _ _ _ h => h) (Or.inl ⟨by rfl, ?_⟩) ?_ ?_
                rotate_left
                · intro w'
                  go_simp
                  with_reducible rfl
                rotate_left
                · simp only [Act.put, List.setIfInBounds_toArray, List.set_cons_zero, List.set_cons_succ, i64_w, i32_w]
                  rfl
                refine done_ (done_of HT_.out (by kernel_rfl)) ?_
                try go_wp2
                go_meet
                case rel => exact ⟨_, (!t271), (by first | rfl | (simp; done) | (simp [*]; done)), H', ⟨by first | omega | exact Nat.le_refl _⟩, ⟨by (with_reducible repeat (first | apply rA | apply rN | apply rD)); exact Kd.R_mono HO250.out (fun _ hk => trivial)⟩, ⟨by (with_reducible repeat (first | apply Kd.N_alloc | apply Kd.N_drewN | apply Kd.N_drew)); exact Kd.N_mono HO229.out (fun _ hk => ⟨hk.1.1.2, ⟨hk.1.1.1.1.1.2, ⟨hk.1.1.1.1.2, ⟨hk.1.1.1.1.1.1.1, ⟨hk.1.1.1.1.1.1.2, hk.1.1.1.2⟩⟩⟩⟩⟩)⟩, ⟨by (with_reducible repeat (first | apply Kd.N_alloc | apply Kd.N_drewN | apply Kd.N_drew)); exact Kd.N_mono HO237.out (fun _ hk => ⟨hk.1.1.2, ⟨hk.1.1.1.1.1.1, ⟨hk.1.1.1.1.2, ⟨hk.1.1.1.1.1.2.1, ⟨hk.1.1.1.1.1.2.2, hk.1.1.1.2⟩⟩⟩⟩⟩)⟩, ⟨by (with_reducible repeat (first | apply rA | apply rN | apply rD)); exact Kd.R_mono HO245.out (fun _ hk => trivial)⟩, ⟨by (with_reducible repeat (first | apply bN | apply bD | apply bA)); exact BK220.out⟩, ⟨by (with_reducible repeat (first | apply bN | apply bD | apply bA)); exact BK221.out⟩, ⟨by (with_reducible repeat (first | apply bN | apply bD | apply bA)); exact BK246.out⟩, ⟨by repeat (first | (with_reducible first | exact HB.out | apply lA | apply lN | apply lD | refine below_set ?_ GE220.out | refine below_set ?_ GE221.out | refine below_set ?_ GE246.out) | exact HB.out)⟩⟩
          · rw [if_neg c52] at H; rw [HRT.out] at H; first | cases H | (cases k <;> simp [prolepsislaw14_KeygramTells.j0] at H)
        · rw [if_neg c51] at H; rw [HRT.out] at H; first | cases H | (cases k <;> simp [prolepsislaw14_KeygramTells.j0] at H)
      · rw [if_neg c48] at H; rw [HRT.out] at H; first | cases H | (cases k <;> simp [prolepsislaw14_KeygramTells.j0] at H)
    · rw [if_neg c47] at H; rw [HRT.out] at H; first | cases H | (cases k <;> simp [prolepsislaw14_KeygramTells.j0] at H)
  case rest =>
    clear HC11
    try clear p2
    try clear c4
    try clear c40
    try clear c47
    try clear c47b0
    try clear c47b1
    obtain ⟨kq, x84_10, rfl, HA, HJ10, HO_9, HO_221005, HO_222005, HO_247005, BK220, BK221, BK246, HB⟩ := hcut
    cases kq with
    | zero => exact absurd HA.out (by simp [prolepsislaw14_KeygramTells.j0])
    | succ kj10 =>
      have H := HA.out
      clear HA
      simp only [prolepsislaw14_KeygramTells.j0] at H
      by_cases c92 : x84_10 = true
      · subst c92
        have H1 : (some false) = some r := by rw [if_pos rfl] at H; exact H
        rw [HRT.out] at H1; cases H1
      · replace c92 := Bool.eq_false_iff.mpr c92
        subst c92
        have H1 : (if t247 = 0 then ((keygram_Parse.f t248).bind fun bt273 => ((prolepsislaw14_known.f kj10).bind fun t283 => (if t283 = true then ((prolepsisref14_Bytes.f kj10 t238 t239 t240 t241 t242 t243).bind fun t284 => ((prolepsisref01_Same.f t248 t284).bind fun t287 => (if t287 = true then (if bt273.2.2.2.2.2.2 = 0 then ((keygram_Same.f bt273.1 bt273.2.1 bt273.2.2.1 bt273.2.2.2.1 bt273.2.2.2.2.1 bt273.2.2.2.2.2.1 t222 t223 t224 t225 t226 t227).bind fun t288 => (some t288)) else (some false)) else (some false)))) else (some false)))) else ((prolepsislaw14_known.f kj10).bind fun t272 => (if t272 = true then (some ((t248.length : Int) == 0)) else (some false)))) = some r := by rw [if_neg (show ¬ (false = true) by decide)] at H; exact H
        clear H
        have H := H1
        clear H1
        by_cases c93 : t247 = 0
        · rw [if_pos c93] at H
          have c93b0 : (t247 == 0) = true := beq_iff_eq.mpr c93
          have c93b1 : (t247 != 0) = false := bne_eq_false_iff_eq.mpr c93
          clear c93
          replace H := Option.bind_eq_some_iff.mp H
          obtain ⟨⟨t273, t274, t275, t276, t277, t278, t281⟩, A940, H⟩ := H
          try dsimp only at H
          have A94 := Aside0.mk A940
          clear A940
          replace H := Option.bind_eq_some_iff.mp H
          obtain ⟨t283, A950, H⟩ := H
          try dsimp only at H
          have A95 := Aside0.mk A950
          clear A950
          by_cases c96 : t283 = true
          · subst c96
            have H1 : ((prolepsisref14_Bytes.f kj10 t238 t239 t240 t241 t242 t243).bind fun t284 => ((prolepsisref01_Same.f t248 t284).bind fun t287 => (if t287 = true then (if t281 = 0 then ((keygram_Same.f t273 t274 t275 t276 t277 t278 t222 t223 t224 t225 t226 t227).bind fun t288 => (some t288)) else (some false)) else (some false)))) = some r := by rw [if_pos rfl] at H; exact H
            clear H
            have H := H1
            clear H1
            replace H := Option.bind_eq_some_iff.mp H
            obtain ⟨t284, A970, H⟩ := H
            try dsimp only at H
            have A97 := Aside0.mk A970
            clear A970
            replace H := Option.bind_eq_some_iff.mp H
            obtain ⟨t287, A980, H⟩ := H
            try dsimp only at H
            have A98 := Aside0.mk A980
            clear A980
            by_cases c99 : t287 = true
            · subst c99
              have H1 : (if t281 = 0 then ((keygram_Same.f t273 t274 t275 t276 t277 t278 t222 t223 t224 t225 t226 t227).bind fun t288 => (some t288)) else (some false)) = some r := by rw [if_pos rfl] at H; exact H
              clear H
              have H := H1
              clear H1
              by_cases c100 : t281 = 0
              · rw [if_pos c100] at H
                have c100b0 : (t281 == 0) = true := beq_iff_eq.mpr c100
                have c100b1 : (t281 != 0) = false := bne_eq_false_iff_eq.mpr c100
                clear c100
                replace H := Option.bind_eq_some_iff.mp H
                obtain ⟨t288, A1010, H⟩ := H
                try dsimp only at H
                have A101 := Aside0.mk A1010
                clear A1010
                obtain rfl := Option.some.inj H
                obtain ⟨Ao102, co102, eo102⟩ := Kd.R_slice HO_9.out
                subst eo102
                go_wp2_with (first | ((with_reducible refine gate_callee (f := 45) rfl ?_); refine goesL_ (some 95) rfl rfl Try.func45 (by kernel_rfl) rfl #[.slice Ao102 t248.length co102] rfl (by (try simp only [List.map_toArray, List.map_cons, List.map_nil]); first | done | rfl | (simp only [List.length_drop, List.length_take]; rfl)) ?_; (with_reducible refine (keygram_Parse.calls _ _ t248 t273 t274 t275 t276 t277 t278 t281 _ ?side1 ?side2 A94.out).mono ?_); (case side1 => repeat (first | exact (Kd.R_reads' HO_9.out).2.2 | (with_reducible refine Kd.C_alloc ?_ _) | (with_reducible refine Kd.C_drewN ?_ _) | (with_reducible refine Kd.C_drew ?_))); (case side2 => exact (Kd.R_reads' HO_9.out).2.1); rintro e w103 ⟨v279, rfl, ho0, hb⟩; refine ⟨_, rfl, ?_⟩; have n0_ := a0 (Kd.R_below (by (with_reducible repeat (first | apply rA | apply rN | apply rD)); exact HO_9.out) hb); have n1_ := a0 (Kd.N_elder' (by (with_reducible repeat (first | apply Kd.N_alloc | apply Kd.N_drewN | apply Kd.N_drew)); exact HO_221005.out) (Kd.N_base ho0) hb); have n2_ := a0 (Kd.N_elder' (by (with_reducible repeat (first | apply Kd.N_alloc | apply Kd.N_drewN | apply Kd.N_drew)); exact HO_222005.out) (Kd.N_base ho0) hb); have n3_ := a0 (Kd.R_below (by (with_reducible repeat (first | apply rA | apply rN | apply rD)); exact HO_247005.out) hb); have n4_ := a0 (Kd.N_lower (Kd.N_mono (ok' := fun k_ => some k_ ≠ (.slice Ao102 t248.length co102 : Value).ownBlock ∧ some k_ ≠ (.slice Ao22 t227.length co22 : Value).ownBlock ∧ some k_ ≠ (.slice Ao29 t235.length co29 : Value).ownBlock ∧ some k_ ≠ (.slice Ao38 t243.length co38 : Value).ownBlock ∧ k_ ≠ gb220 ∧ k_ ≠ gb221 ∧ k_ ≠ gb246) ho0 (fun k_ hk_ => ⟨(Kd.fresh' (Kd.R_lt (by (with_reducible repeat (first | apply rA | apply rN | apply rD)); exact HO_9.out)) k_ hk_), (Kd.fresh' (Kd.N_lt (by (with_reducible repeat (first | apply Kd.N_alloc | apply Kd.N_drewN | apply Kd.N_drew)); exact HO_221005.out)) k_ hk_), (Kd.fresh' (Kd.N_lt (by (with_reducible repeat (first | apply Kd.N_alloc | apply Kd.N_drewN | apply Kd.N_drew)); exact HO_222005.out)) k_ hk_), (Kd.fresh' (Kd.R_lt (by (with_reducible repeat (first | apply rA | apply rN | apply rD)); exact HO_247005.out)) k_ hk_), (Kd.freshB (g := gb220) (o := .cells #[.int .u64 t222, .int .u64 t223, .int .i64 t224, .int .i64 t225, .int .u64 t226, .slice Ao22 t227.length co22] 66 (0, 0)) (by (with_reducible repeat (first | apply bN | apply bD | apply bA)); exact BK220.out) k_ hk_), (Kd.freshB (g := gb221) (o := .cells #[.int .u64 t230, .int .u64 t231, .int .i64 t232, .int .i64 t233, .int .u64 t234, .slice Ao29 t235.length co29] 66 (0, 0)) (by (with_reducible repeat (first | apply bN | apply bD | apply bA)); exact BK221.out) k_ hk_), (Kd.freshB (g := gb246) (o := .cells #[.int .u64 t238, .int .u64 t239, .int .i64 t240, .int .i64 t241, .int .u64 t242, .slice Ao38 t243.length co38] 71 (0, 0)) (by (with_reducible repeat (first | apply bN | apply bD | apply bA)); exact BK246.out) k_ hk_)⟩)) (below_size (by repeat (first | (with_reducible first | exact HB.out | apply lA | apply lN | apply lD | refine below_set ?_ GE220.out | refine below_set ?_ GE221.out | refine below_set ?_ GE246.out) | exact HB.out)))); have n5_ := a0 (blk_below (g := gb220) (o := .cells #[.int .u64 t222, .int .u64 t223, .int .i64 t224, .int .i64 t225, .int .u64 t226, .slice Ao22 t227.length co22] 66 (0, 0)) (by (with_reducible repeat (first | apply bN | apply bD | apply bA)); exact BK220.out) hb); have n6_ := a0 (blk_below (g := gb221) (o := .cells #[.int .u64 t230, .int .u64 t231, .int .i64 t232, .int .i64 t233, .int .u64 t234, .slice Ao29 t235.length co29] 66 (0, 0)) (by (with_reducible repeat (first | apply bN | apply bD | apply bA)); exact BK221.out) hb); have n7_ := a0 (blk_below (g := gb246) (o := .cells #[.int .u64 t238, .int .u64 t239, .int .i64 t240, .int .i64 t241, .int .u64 t242, .slice Ao38 t243.length co38] 71 (0, 0)) (by (with_reducible repeat (first | apply bN | apply bD | apply bA)); exact BK246.out) hb); have n8_ := a0 (below_step (by repeat (first | (with_reducible first | exact HB.out | apply lA | apply lN | apply lD | refine below_set ?_ GE220.out | refine below_set ?_ GE221.out | refine below_set ?_ GE246.out) | exact HB.out)) hb); clear HO_9; clear HO_221005; clear HO_222005; clear HO_247005; clear BK220; clear BK221; clear BK246; clear HB; have HO_9 := n0_; have HO_221005 := n1_; have HO_222005 := n2_; have HO_247005 := n3_; have HO280 := n4_; have BK220 := n5_; have BK221 := n6_; have BK246 := n7_; have HB := n8_; clear n0_ n1_ n2_ n3_ n4_ n5_ n6_ n7_ n8_; (try clear hb); (try clear hb2); (try clear hk); (try clear hi); (try clear ho0)) | ((with_reducible refine gate_dst (N := 15) rfl ?_); (try (refine gate_guard (by rfl) ?_; dsimp only)); refine box_event ?hg (N := 15) ?hd (cs := #[.int .u64 0, .int .u64 0, .int .i64 0, .int .i64 0, .int .u64 0, .slice none 0 0]) (t := 66) ?hr ?_; (case hd => rfl); (case hg => rfl); (case hr => first | (go_simp; done) | (go_simp; rfl)); intro gb282 hg w104 hbox hb; have n0_ := a0 (Kd.R_below (by (with_reducible repeat (first | apply rA | apply rN | apply rD)); exact HO_9.out) hb); have n1_ := a0 (Kd.N_below (Kd.N_elderB (by (with_reducible repeat (first | apply Kd.N_alloc | apply Kd.N_drewN | apply Kd.N_drew)); exact HO_221005.out) gb282 (Nat.le_of_eq hg.symm)) hb); have n2_ := a0 (Kd.N_below (Kd.N_elderB (by (with_reducible repeat (first | apply Kd.N_alloc | apply Kd.N_drewN | apply Kd.N_drew)); exact HO_222005.out) gb282 (Nat.le_of_eq hg.symm)) hb); have n3_ := a0 (Kd.R_below (by (with_reducible repeat (first | apply rA | apply rN | apply rD)); exact HO_247005.out) hb); have n4_ := a0 (Kd.N_below (Kd.N_elderB (by (with_reducible repeat (first | apply Kd.N_alloc | apply Kd.N_drewN | apply Kd.N_drew)); exact HO280.out) gb282 (Nat.le_of_eq hg.symm)) hb); have n5_ := a0 (blk_below (g := gb220) (o := .cells #[.int .u64 t222, .int .u64 t223, .int .i64 t224, .int .i64 t225, .int .u64 t226, .slice Ao22 t227.length co22] 66 (0, 0)) (by (with_reducible repeat (first | apply bN | apply bD | apply bA)); exact BK220.out) hb); have n6_ := a0 (blk_below (g := gb221) (o := .cells #[.int .u64 t230, .int .u64 t231, .int .i64 t232, .int .i64 t233, .int .u64 t234, .slice Ao29 t235.length co29] 66 (0, 0)) (by (with_reducible repeat (first | apply bN | apply bD | apply bA)); exact BK221.out) hb); have n7_ := a0 (blk_below (g := gb246) (o := .cells #[.int .u64 t238, .int .u64 t239, .int .i64 t240, .int .i64 t241, .int .u64 t242, .slice Ao38 t243.length co38] 71 (0, 0)) (by (with_reducible repeat (first | apply bN | apply bD | apply bA)); exact BK246.out) hb); have n8_ := a0 (below_step (by repeat (first | (with_reducible first | exact HB.out | apply lA | apply lN | apply lD | refine below_set ?_ GE220.out | refine below_set ?_ GE221.out | refine below_set ?_ GE246.out) | exact HB.out)) hb); have n9_ := a0 (hbox); have n10_ := a0 ((by rw [hg]; exact (below_size (by repeat (first | (with_reducible first | exact HB.out | apply lA | apply lN | apply lD | refine below_set ?_ GE220.out | refine below_set ?_ GE221.out | refine below_set ?_ GE246.out) | exact HB.out))) : w.heap.size ≤ gb282)); have n11_ := a0 ((by rw [hg]; exact (below_size (by repeat (first | (with_reducible first | exact HB.out | apply lA | apply lN | apply lD | refine below_set ?_ GE220.out | refine below_set ?_ GE221.out | refine below_set ?_ GE246.out) | exact HB.out))) : w.heap.size ≤ gb282)); have n12_ := a0 ((by rw [hg]; exact Nat.ne_of_lt (blk_lt (g := gb220) (o := .cells #[.int .u64 t222, .int .u64 t223, .int .i64 t224, .int .i64 t225, .int .u64 t226, .slice Ao22 t227.length co22] 66 (0, 0)) (by (with_reducible repeat (first | apply bN | apply bD | apply bA)); exact BK220.out)) : gb220 ≠ gb282)); have n13_ := a0 ((by rw [hg]; exact Nat.ne_of_gt (blk_lt (g := gb220) (o := .cells #[.int .u64 t222, .int .u64 t223, .int .i64 t224, .int .i64 t225, .int .u64 t226, .slice Ao22 t227.length co22] 66 (0, 0)) (by (with_reducible repeat (first | apply bN | apply bD | apply bA)); exact BK220.out)) : gb282 ≠ gb220)); have n14_ := a0 ((by rw [hg]; exact Nat.ne_of_lt (blk_lt (g := gb221) (o := .cells #[.int .u64 t230, .int .u64 t231, .int .i64 t232, .int .i64 t233, .int .u64 t234, .slice Ao29 t235.length co29] 66 (0, 0)) (by (with_reducible repeat (first | apply bN | apply bD | apply bA)); exact BK221.out)) : gb221 ≠ gb282)); have n15_ := a0 ((by rw [hg]; exact Nat.ne_of_gt (blk_lt (g := gb221) (o := .cells #[.int .u64 t230, .int .u64 t231, .int .i64 t232, .int .i64 t233, .int .u64 t234, .slice Ao29 t235.length co29] 66 (0, 0)) (by (with_reducible repeat (first | apply bN | apply bD | apply bA)); exact BK221.out)) : gb282 ≠ gb221)); have n16_ := a0 ((by rw [hg]; exact Nat.ne_of_lt (blk_lt (g := gb246) (o := .cells #[.int .u64 t238, .int .u64 t239, .int .i64 t240, .int .i64 t241, .int .u64 t242, .slice Ao38 t243.length co38] 71 (0, 0)) (by (with_reducible repeat (first | apply bN | apply bD | apply bA)); exact BK246.out)) : gb246 ≠ gb282)); have n17_ := a0 ((by rw [hg]; exact Nat.ne_of_gt (blk_lt (g := gb246) (o := .cells #[.int .u64 t238, .int .u64 t239, .int .i64 t240, .int .i64 t241, .int .u64 t242, .slice Ao38 t243.length co38] 71 (0, 0)) (by (with_reducible repeat (first | apply bN | apply bD | apply bA)); exact BK246.out)) : gb282 ≠ gb246)); clear HO_9; clear HO_221005; clear HO_222005; clear HO_247005; clear HO280; clear BK220; clear BK221; clear BK246; clear HB; have HO_9 := n0_; have HO_221005 := n1_; have HO_222005 := n2_; have HO_247005 := n3_; have HO280 := n4_; have BK220 := n5_; have BK221 := n6_; have BK246 := n7_; have HB := n8_; have BK282 := n9_; have GW282 := n10_; have GE282 := n11_; have NB220_282 := n12_; have NB282_220 := n13_; have NB221_282 := n14_; have NB282_221 := n15_; have NB246_282 := n16_; have NB282_246 := n17_; clear n0_ n1_ n2_ n3_ n4_ n5_ n6_ n7_ n8_ n9_ n10_ n11_ n12_ n13_ n14_ n15_ n16_ n17_; clear hb hbox hg; have hnb105 := NB282_220.out; have hnc105 := NB220_282.out; have hnb106 := NB282_221.out; have hnc106 := NB221_282.out; have hnb107 := NB282_246.out; have hnc107 := NB246_282.out; obtain ⟨hcz108_0, hcz108_1, hcz108_2, hcz108_3, hcz108_4, hcz108_5, hfz108_0, hfz108_1, hfz108_2, hfz108_3, hfz108_4, hfz108_5⟩ := cel6 BK282.out; obtain ⟨Ao109, co109, eo109⟩ := Kd.N_slice HO280.out; subst eo109) | ((with_reducible refine gate_callee (f := 39) rfl ?_); refine goesL_ (some 98) rfl rfl Try.func39 (by kernel_rfl) rfl #[] rfl (by (try simp only [List.map_toArray, List.map_cons, List.map_nil]); first | done | rfl | (simp only [List.length_drop, List.length_take]; rfl)) ?_; (with_reducible refine (prolepsislaw14_known.calls kj10  true _ A95.out).mono ?_); rintro e w110 ⟨rfl, hb⟩; refine ⟨_, rfl, ?_⟩; have n0_ := a0 (Kd.R_below (by (with_reducible repeat (first | apply rA | apply rN | apply rD)); exact (Kd.R_mono (Kd.R_far (p := ⟨gb282, 5, none⟩) (Kd.R_far (p := ⟨gb282, 4, none⟩) (Kd.R_far (p := ⟨gb282, 3, none⟩) (Kd.R_far (p := ⟨gb282, 2, none⟩) (Kd.R_far (p := ⟨gb282, 1, none⟩) (Kd.R_far (p := ⟨gb282, 0, none⟩) (Kd.R_types HO_9.out BK282.out (by decide)) (fun _ hk => hk.2) (.int .u64 t273)) (fun _ hk => hk.2) (.int .u64 t274)) (fun _ hk => hk.2) (.int .i64 t275)) (fun _ hk => hk.2) (.int .i64 t276)) (fun _ hk => hk.2) (.int .u64 t277)) (fun _ hk => hk.2) (.slice Ao109 t278.length co109)) (fun _ h_ => h_.1))) hb); have n1_ := a0 (Kd.N_below (by (with_reducible repeat (first | apply Kd.N_alloc | apply Kd.N_drewN | apply Kd.N_drew)); exact (Kd.N_mono (Kd.N_far (p := ⟨gb282, 5, none⟩) (Kd.N_far (p := ⟨gb282, 4, none⟩) (Kd.N_far (p := ⟨gb282, 3, none⟩) (Kd.N_far (p := ⟨gb282, 2, none⟩) (Kd.N_far (p := ⟨gb282, 1, none⟩) (Kd.N_far (p := ⟨gb282, 0, none⟩) (Kd.N_mono HO_221005.out (fun k_ hk => (⟨hk, hk.2⟩ : _ ∧ k_ ≠ gb282))) (fun _ hk => hk.2) (.int .u64 t273)) (fun _ hk => hk.2) (.int .u64 t274)) (fun _ hk => hk.2) (.int .i64 t275)) (fun _ hk => hk.2) (.int .i64 t276)) (fun _ hk => hk.2) (.int .u64 t277)) (fun _ hk => hk.2) (.slice Ao109 t278.length co109)) (fun _ h_ => h_.1))) hb); have n2_ := a0 (Kd.N_below (by (with_reducible repeat (first | apply Kd.N_alloc | apply Kd.N_drewN | apply Kd.N_drew)); exact (Kd.N_mono (Kd.N_far (p := ⟨gb282, 5, none⟩) (Kd.N_far (p := ⟨gb282, 4, none⟩) (Kd.N_far (p := ⟨gb282, 3, none⟩) (Kd.N_far (p := ⟨gb282, 2, none⟩) (Kd.N_far (p := ⟨gb282, 1, none⟩) (Kd.N_far (p := ⟨gb282, 0, none⟩) (Kd.N_mono HO_222005.out (fun k_ hk => (⟨hk, hk.2⟩ : _ ∧ k_ ≠ gb282))) (fun _ hk => hk.2) (.int .u64 t273)) (fun _ hk => hk.2) (.int .u64 t274)) (fun _ hk => hk.2) (.int .i64 t275)) (fun _ hk => hk.2) (.int .i64 t276)) (fun _ hk => hk.2) (.int .u64 t277)) (fun _ hk => hk.2) (.slice Ao109 t278.length co109)) (fun _ h_ => h_.1))) hb); have n3_ := a0 (Kd.R_below (by (with_reducible repeat (first | apply rA | apply rN | apply rD)); exact (Kd.R_mono (Kd.R_far (p := ⟨gb282, 5, none⟩) (Kd.R_far (p := ⟨gb282, 4, none⟩) (Kd.R_far (p := ⟨gb282, 3, none⟩) (Kd.R_far (p := ⟨gb282, 2, none⟩) (Kd.R_far (p := ⟨gb282, 1, none⟩) (Kd.R_far (p := ⟨gb282, 0, none⟩) (Kd.R_types HO_247005.out BK282.out (by decide)) (fun _ hk => hk.2) (.int .u64 t273)) (fun _ hk => hk.2) (.int .u64 t274)) (fun _ hk => hk.2) (.int .i64 t275)) (fun _ hk => hk.2) (.int .i64 t276)) (fun _ hk => hk.2) (.int .u64 t277)) (fun _ hk => hk.2) (.slice Ao109 t278.length co109)) (fun _ h_ => h_.1))) hb); have n4_ := a0 (Kd.N_below (by (with_reducible repeat (first | apply Kd.N_alloc | apply Kd.N_drewN | apply Kd.N_drew)); exact (Kd.N_mono (Kd.N_far (p := ⟨gb282, 5, none⟩) (Kd.N_far (p := ⟨gb282, 4, none⟩) (Kd.N_far (p := ⟨gb282, 3, none⟩) (Kd.N_far (p := ⟨gb282, 2, none⟩) (Kd.N_far (p := ⟨gb282, 1, none⟩) (Kd.N_far (p := ⟨gb282, 0, none⟩) (Kd.N_mono HO280.out (fun k_ hk => (⟨hk, hk.2⟩ : _ ∧ k_ ≠ gb282))) (fun _ hk => hk.2) (.int .u64 t273)) (fun _ hk => hk.2) (.int .u64 t274)) (fun _ hk => hk.2) (.int .i64 t275)) (fun _ hk => hk.2) (.int .i64 t276)) (fun _ hk => hk.2) (.int .u64 t277)) (fun _ hk => hk.2) (.slice Ao109 t278.length co109)) (fun _ h_ => h_.1))) hb); have n5_ := a0 (blk_below (g := gb220) (o := .cells #[.int .u64 t222, .int .u64 t223, .int .i64 t224, .int .i64 t225, .int .u64 t226, .slice Ao22 t227.length co22] 66 (0, 0)) (by (with_reducible repeat (first | apply bN | apply bD | apply bA)); refine blk_far ?_ NB220_282.out _; refine blk_far ?_ NB220_282.out _; refine blk_far ?_ NB220_282.out _; refine blk_far ?_ NB220_282.out _; refine blk_far ?_ NB220_282.out _; refine blk_far ?_ NB220_282.out _; (with_reducible repeat (first | apply bN | apply bD | apply bA)); exact BK220.out) hb); have n6_ := a0 (blk_below (g := gb221) (o := .cells #[.int .u64 t230, .int .u64 t231, .int .i64 t232, .int .i64 t233, .int .u64 t234, .slice Ao29 t235.length co29] 66 (0, 0)) (by (with_reducible repeat (first | apply bN | apply bD | apply bA)); refine blk_far ?_ NB221_282.out _; refine blk_far ?_ NB221_282.out _; refine blk_far ?_ NB221_282.out _; refine blk_far ?_ NB221_282.out _; refine blk_far ?_ NB221_282.out _; refine blk_far ?_ NB221_282.out _; (with_reducible repeat (first | apply bN | apply bD | apply bA)); exact BK221.out) hb); have n7_ := a0 (blk_below (g := gb246) (o := .cells #[.int .u64 t238, .int .u64 t239, .int .i64 t240, .int .i64 t241, .int .u64 t242, .slice Ao38 t243.length co38] 71 (0, 0)) (by (with_reducible repeat (first | apply bN | apply bD | apply bA)); refine blk_far ?_ NB246_282.out _; refine blk_far ?_ NB246_282.out _; refine blk_far ?_ NB246_282.out _; refine blk_far ?_ NB246_282.out _; refine blk_far ?_ NB246_282.out _; refine blk_far ?_ NB246_282.out _; (with_reducible repeat (first | apply bN | apply bD | apply bA)); exact BK246.out) hb); have n8_ := a0 (blk_below (g := gb282) (o := .cells #[.int .u64 t273, .int .u64 t274, .int .i64 t275, .int .i64 t276, .int .u64 t277, .slice Ao109 t278.length co109] 66 (0, 0)) (by (with_reducible repeat (first | apply bN | apply bD | apply bA)); refine blk_put (cs := #[.int .u64 t273, .int .u64 t274, .int .i64 t275, .int .i64 t276, .int .u64 t277, .slice none 0 0]) ?_ 5 _ rfl; refine blk_put (cs := #[.int .u64 t273, .int .u64 t274, .int .i64 t275, .int .i64 t276, .int .u64 0, .slice none 0 0]) ?_ 4 _ rfl; refine blk_put (cs := #[.int .u64 t273, .int .u64 t274, .int .i64 t275, .int .i64 0, .int .u64 0, .slice none 0 0]) ?_ 3 _ rfl; refine blk_put (cs := #[.int .u64 t273, .int .u64 t274, .int .i64 0, .int .i64 0, .int .u64 0, .slice none 0 0]) ?_ 2 _ rfl; refine blk_put (cs := #[.int .u64 t273, .int .u64 0, .int .i64 0, .int .i64 0, .int .u64 0, .slice none 0 0]) ?_ 1 _ rfl; refine blk_put (cs := #[.int .u64 0, .int .u64 0, .int .i64 0, .int .i64 0, .int .u64 0, .slice none 0 0]) ?_ 0 _ rfl; (with_reducible repeat (first | apply bN | apply bD | apply bA)); exact BK282.out) hb); have n9_ := a0 (below_step (by repeat (first | (with_reducible first | exact HB.out | apply lA | apply lN | apply lD | refine below_set ?_ GE220.out | refine below_set ?_ GE221.out | refine below_set ?_ GE246.out | refine below_set ?_ GE282.out) | exact HB.out)) hb); clear HO_9; clear HO_221005; clear HO_222005; clear HO_247005; clear HO280; clear BK220; clear BK221; clear BK246; clear BK282; clear HB; have HO_9 := n0_; have HO_221005 := n1_; have HO_222005 := n2_; have HO_247005 := n3_; have HO280 := n4_; have BK220 := n5_; have BK221 := n6_; have BK246 := n7_; have BK282 := n8_; have HB := n9_; clear n0_ n1_ n2_ n3_ n4_ n5_ n6_ n7_ n8_ n9_; (try clear hb); (try clear hb2); (try clear hk); (try clear hi); have hnb111 := NB246_220.out; have hnc111 := NB220_246.out; have hnb112 := NB246_221.out; have hnc112 := NB221_246.out; obtain ⟨hcz113_0, hcz113_1, hcz113_2, hcz113_3, hcz113_4, hcz113_5, hfz113_0, hfz113_1, hfz113_2, hfz113_3, hfz113_4, hfz113_5⟩ := cel6 BK246.out) | (go_at_call 53; (with_reducible refine (prolepsisref14_Bytes.calls kj10 t238 t239 t240 t241 t242 _ _ t243 t284 _ ?side1 ?side2 A97.out).mono ?_); (case side1 => repeat (first | exact (Kd.R_reads' HO_247005.out).2.2 | (with_reducible refine Kd.C_alloc ?_ _) | (with_reducible refine Kd.C_drewN ?_ _) | (with_reducible refine Kd.C_drew ?_))); (case side2 => exact (Kd.R_reads' HO_247005.out).2.1); rintro e w114 ⟨v285, rfl, ho0, hb⟩; have n0_ := a0 (Kd.R_elder' (by (with_reducible repeat (first | apply rA | apply rN | apply rD)); exact HO_9.out) (Kd.R_base ho0) hb); have n1_ := a0 (Kd.N_elder' (by (with_reducible repeat (first | apply Kd.N_alloc | apply Kd.N_drewN | apply Kd.N_drew)); exact HO_221005.out) (Kd.R_base ho0) hb); have n2_ := a0 (Kd.N_elder' (by (with_reducible repeat (first | apply Kd.N_alloc | apply Kd.N_drewN | apply Kd.N_drew)); exact HO_222005.out) (Kd.R_base ho0) hb); have n3_ := a0 (Kd.R_below (by (with_reducible repeat (first | apply rA | apply rN | apply rD)); exact HO_247005.out) hb); have n4_ := a0 (Kd.N_elder' (by (with_reducible repeat (first | apply Kd.N_alloc | apply Kd.N_drewN | apply Kd.N_drew)); exact HO280.out) (Kd.R_base ho0) hb); have n5_ := a0 (Kd.R_lower (Kd.R_new' ho0 (Kd.R_lt (by (with_reducible repeat (first | apply rA | apply rN | apply rD)); exact HO_9.out))) (below_size (by repeat (first | (with_reducible first | exact HB.out | apply lA | apply lN | apply lD | refine below_set ?_ GE220.out | refine below_set ?_ GE221.out | refine below_set ?_ GE246.out | refine below_set ?_ GE282.out) | exact HB.out)))); have n6_ := a0 (blk_below (g := gb220) (o := .cells #[.int .u64 t222, .int .u64 t223, .int .i64 t224, .int .i64 t225, .int .u64 t226, .slice Ao22 t227.length co22] 66 (0, 0)) (by (with_reducible repeat (first | apply bN | apply bD | apply bA)); exact BK220.out) hb); have n7_ := a0 (blk_below (g := gb221) (o := .cells #[.int .u64 t230, .int .u64 t231, .int .i64 t232, .int .i64 t233, .int .u64 t234, .slice Ao29 t235.length co29] 66 (0, 0)) (by (with_reducible repeat (first | apply bN | apply bD | apply bA)); exact BK221.out) hb); have n8_ := a0 (blk_below (g := gb246) (o := .cells #[.int .u64 t238, .int .u64 t239, .int .i64 t240, .int .i64 t241, .int .u64 t242, .slice Ao38 t243.length co38] 71 (0, 0)) (by (with_reducible repeat (first | apply bN | apply bD | apply bA)); exact BK246.out) hb); have n9_ := a0 (blk_below (g := gb282) (o := .cells #[.int .u64 t273, .int .u64 t274, .int .i64 t275, .int .i64 t276, .int .u64 t277, .slice Ao109 t278.length co109] 66 (0, 0)) (by (with_reducible repeat (first | apply bN | apply bD | apply bA)); exact BK282.out) hb); have n10_ := a0 (below_step (by repeat (first | (with_reducible first | exact HB.out | apply lA | apply lN | apply lD | refine below_set ?_ GE220.out | refine below_set ?_ GE221.out | refine below_set ?_ GE246.out | refine below_set ?_ GE282.out) | exact HB.out)) hb); clear HO_9; clear HO_221005; clear HO_222005; clear HO_247005; clear HO280; clear BK220; clear BK221; clear BK246; clear BK282; clear HB; have HO_9 := n0_; have HO_221005 := n1_; have HO_222005 := n2_; have HO_247005 := n3_; have HO280 := n4_; have HO286 := n5_; have BK220 := n6_; have BK221 := n7_; have BK246 := n8_; have BK282 := n9_; have HB := n10_; clear n0_ n1_ n2_ n3_ n4_ n5_ n6_ n7_ n8_ n9_ n10_; (try clear hb); (try clear hb2); (try clear hk); (try clear hi); (try clear ho0); obtain ⟨Ao115, co115, eo115⟩ := Kd.R_slice HO286.out; subst eo115) | (go_at_call 19; (with_reducible refine (prolepsisref01_Same.calls _ _ t248 _ _ t284 true _ ?side1 ?side2 ?side3 ?side4 A98.out).mono ?_); (case side1 => repeat (first | exact (Kd.R_reads' HO_9.out).2.2 | (with_reducible refine Kd.C_alloc ?_ _) | (with_reducible refine Kd.C_drewN ?_ _) | (with_reducible refine Kd.C_drew ?_))); (case side2 => exact (Kd.R_reads' HO_9.out).2.1); (case side3 => repeat (first | exact (Kd.R_reads' HO286.out).2.2 | (with_reducible refine Kd.C_alloc ?_ _) | (with_reducible refine Kd.C_drewN ?_ _) | (with_reducible refine Kd.C_drew ?_))); (case side4 => exact (Kd.R_reads' HO286.out).2.1); rintro e w' ⟨rfl, ⟨nd, rfl⟩⟩; obtain ⟨hcz116_0, hcz116_1, hcz116_2, hcz116_3, hcz116_4, hcz116_5, hfz116_0, hfz116_1, hfz116_2, hfz116_3, hfz116_4, hfz116_5⟩ := cel6 BK282.out; have hnb117 := NB220_221.out; have hnc117 := NB221_220.out; obtain ⟨hcz118_0, hcz118_1, hcz118_2, hcz118_3, hcz118_4, hcz118_5, hfz118_0, hfz118_1, hfz118_2, hfz118_3, hfz118_4, hfz118_5⟩ := cel6 BK220.out) | (go_at_call 50; (with_reducible refine (keygram_Same.calls t273 t274 t275 t276 t277 _ _ t278 t222 t223 t224 t225 t226 _ _ t227 t288 _ ?side1 ?side2 ?side3 ?side4 A101.out).mono ?_); (case side1 => repeat (first | exact (Kd.N_reads' HO280.out).2.2 | (with_reducible refine Kd.C_alloc ?_ _) | (with_reducible refine Kd.C_drewN ?_ _) | (with_reducible refine Kd.C_drew ?_))); (case side2 => exact (Kd.N_reads' HO280.out).2.1); (case side3 => repeat (first | exact (Kd.N_reads' HO_221005.out).2.2 | (with_reducible refine Kd.C_alloc ?_ _) | (with_reducible refine Kd.C_drewN ?_ _) | (with_reducible refine Kd.C_drew ?_))); (case side4 => exact (Kd.N_reads' HO_221005.out).2.1); rintro e w119 ⟨rfl, hb⟩; have n0_ := a0 (Kd.R_below (by (with_reducible repeat (first | apply rA | apply rN | apply rD)); exact HO_9.out) hb); have n1_ := a0 (Kd.N_below (by (with_reducible repeat (first | apply Kd.N_alloc | apply Kd.N_drewN | apply Kd.N_drew)); exact HO_221005.out) hb); have n2_ := a0 (Kd.N_below (by (with_reducible repeat (first | apply Kd.N_alloc | apply Kd.N_drewN | apply Kd.N_drew)); exact HO_222005.out) hb); have n3_ := a0 (Kd.R_below (by (with_reducible repeat (first | apply rA | apply rN | apply rD)); exact HO_247005.out) hb); have n4_ := a0 (Kd.N_below (by (with_reducible repeat (first | apply Kd.N_alloc | apply Kd.N_drewN | apply Kd.N_drew)); exact HO280.out) hb); have n5_ := a0 (Kd.R_below (by (with_reducible repeat (first | apply rA | apply rN | apply rD)); exact HO286.out) hb); have n6_ := a0 (blk_below (g := gb220) (o := .cells #[.int .u64 t222, .int .u64 t223, .int .i64 t224, .int .i64 t225, .int .u64 t226, .slice Ao22 t227.length co22] 66 (0, 0)) (by (with_reducible repeat (first | apply bN | apply bD | apply bA)); exact BK220.out) hb); have n7_ := a0 (blk_below (g := gb221) (o := .cells #[.int .u64 t230, .int .u64 t231, .int .i64 t232, .int .i64 t233, .int .u64 t234, .slice Ao29 t235.length co29] 66 (0, 0)) (by (with_reducible repeat (first | apply bN | apply bD | apply bA)); exact BK221.out) hb); have n8_ := a0 (blk_below (g := gb246) (o := .cells #[.int .u64 t238, .int .u64 t239, .int .i64 t240, .int .i64 t241, .int .u64 t242, .slice Ao38 t243.length co38] 71 (0, 0)) (by (with_reducible repeat (first | apply bN | apply bD | apply bA)); exact BK246.out) hb); have n9_ := a0 (blk_below (g := gb282) (o := .cells #[.int .u64 t273, .int .u64 t274, .int .i64 t275, .int .i64 t276, .int .u64 t277, .slice Ao109 t278.length co109] 66 (0, 0)) (by (with_reducible repeat (first | apply bN | apply bD | apply bA)); exact BK282.out) hb); have n10_ := a0 (below_step (by repeat (first | (with_reducible first | exact HB.out | apply lA | apply lN | apply lD | refine below_set ?_ GE220.out | refine below_set ?_ GE221.out | refine below_set ?_ GE246.out | refine below_set ?_ GE282.out) | exact HB.out)) hb); clear HO_9; clear HO_221005; clear HO_222005; clear HO_247005; clear HO280; clear HO286; clear BK220; clear BK221; clear BK246; clear BK282; clear HB; have HO_9 := n0_; have HO_221005 := n1_; have HO_222005 := n2_; have HO_247005 := n3_; have HO280 := n4_; have HO286 := n5_; have BK220 := n6_; have BK221 := n7_; have BK246 := n8_; have BK282 := n9_; have HB := n10_; clear n0_ n1_ n2_ n3_ n4_ n5_ n6_ n7_ n8_ n9_ n10_; (try clear hb); (try clear hb2); (try clear hk); (try clear hi)))
                go_ret
                exact ⟨by first | rfl | (simp [errW_none, errW_some] <;> rfl) | (simp [*, errW_none, errW_some] <;> rfl), by repeat (first | (with_reducible first | exact HB.out | apply lA | apply lN | apply lD | refine below_set ?_ GE220.out | refine below_set ?_ GE221.out | refine below_set ?_ GE246.out | refine below_set ?_ GE282.out) | exact HB.out)⟩
              · rw [if_neg c100] at H; rw [HRT.out] at H; first | cases H | (cases k <;> simp [prolepsislaw14_KeygramTells.j0] at H)
            · replace c99 := Bool.eq_false_iff.mpr c99
              subst c99
              have H1 : (some false) = some r := by rw [if_neg (show ¬ (false = true) by decide)] at H; exact H
              rw [HRT.out] at H1; cases H1
          · replace c96 := Bool.eq_false_iff.mpr c96
            subst c96
            have H1 : (some false) = some r := by rw [if_neg (show ¬ (false = true) by decide)] at H; exact H
            rw [HRT.out] at H1; cases H1
        · rw [if_neg c93] at H
          have c93b0 : (t247 == 0) = false := beq_eq_false_iff_ne.mpr c93
          have c93b1 : (t247 != 0) = true := bne_iff_ne.mpr c93
          replace H := Option.bind_eq_some_iff.mp H
          obtain ⟨t272, A1570, H⟩ := H
          try dsimp only at H
          have A157 := Aside0.mk A1570
          clear A1570
          by_cases c158 : t272 = true
          · subst c158
            have H1 : (some ((t248.length : Int) == 0)) = some r := by rw [if_pos rfl] at H; exact H
            clear H
            have H := H1
            clear H1
            obtain rfl := Option.some.inj H
            go_wp2_with (first | ((with_reducible refine gate_callee (f := 39) rfl ?_); refine goesL_ (some 87) rfl rfl Try.func39 (by kernel_rfl) rfl #[] rfl (by (try simp only [List.map_toArray, List.map_cons, List.map_nil]); first | done | rfl | (simp only [List.length_drop, List.length_take]; rfl)) ?_; (with_reducible refine (prolepsislaw14_known.calls kj10  true _ A157.out).mono ?_); rintro e w159 ⟨rfl, hb⟩; refine ⟨_, rfl, ?_⟩; have n0_ := a0 (Kd.R_below (by (with_reducible repeat (first | apply rA | apply rN | apply rD)); exact HO_9.out) hb); have n1_ := a0 (Kd.N_below (by (with_reducible repeat (first | apply Kd.N_alloc | apply Kd.N_drewN | apply Kd.N_drew)); exact HO_221005.out) hb); have n2_ := a0 (Kd.N_below (by (with_reducible repeat (first | apply Kd.N_alloc | apply Kd.N_drewN | apply Kd.N_drew)); exact HO_222005.out) hb); have n3_ := a0 (Kd.R_below (by (with_reducible repeat (first | apply rA | apply rN | apply rD)); exact HO_247005.out) hb); have n4_ := a0 (blk_below (g := gb220) (o := .cells #[.int .u64 t222, .int .u64 t223, .int .i64 t224, .int .i64 t225, .int .u64 t226, .slice Ao22 t227.length co22] 66 (0, 0)) (by (with_reducible repeat (first | apply bN | apply bD | apply bA)); exact BK220.out) hb); have n5_ := a0 (blk_below (g := gb221) (o := .cells #[.int .u64 t230, .int .u64 t231, .int .i64 t232, .int .i64 t233, .int .u64 t234, .slice Ao29 t235.length co29] 66 (0, 0)) (by (with_reducible repeat (first | apply bN | apply bD | apply bA)); exact BK221.out) hb); have n6_ := a0 (blk_below (g := gb246) (o := .cells #[.int .u64 t238, .int .u64 t239, .int .i64 t240, .int .i64 t241, .int .u64 t242, .slice Ao38 t243.length co38] 71 (0, 0)) (by (with_reducible repeat (first | apply bN | apply bD | apply bA)); exact BK246.out) hb); have n7_ := a0 (below_step (by repeat (first | (with_reducible first | exact HB.out | apply lA | apply lN | apply lD | refine below_set ?_ GE220.out | refine below_set ?_ GE221.out | refine below_set ?_ GE246.out) | exact HB.out)) hb); clear HO_9; clear HO_221005; clear HO_222005; clear HO_247005; clear BK220; clear BK221; clear BK246; clear HB; have HO_9 := n0_; have HO_221005 := n1_; have HO_222005 := n2_; have HO_247005 := n3_; have BK220 := n4_; have BK221 := n5_; have BK246 := n6_; have HB := n7_; clear n0_ n1_ n2_ n3_ n4_ n5_ n6_ n7_; (try clear hb); (try clear hb2); (try clear hk); (try clear hi); obtain ⟨Ao160, co160, eo160⟩ := Kd.R_slice HO_9.out; subst eo160))
            go_ret
            exact ⟨by first | rfl | (simp [errW_none, errW_some] <;> rfl) | (simp [*, errW_none, errW_some] <;> rfl), by repeat (first | (with_reducible first | exact HB.out | apply lA | apply lN | apply lD | refine below_set ?_ GE220.out | refine below_set ?_ GE221.out | refine below_set ?_ GE246.out) | exact HB.out)⟩
          · replace c158 := Bool.eq_false_iff.mpr c158
            subst c158
            have H1 : (some false) = some r := by rw [if_neg (show ¬ (false = true) by decide)] at H; exact H
            rw [HRT.out] at H1; cases H1
end Go.Proofs.Ytpephndecdkfhaa.PKeygramTells
