/- KeygramTells: what its proof leads to. No condition. -/
import Derived.Test.YtpephndecdkfhaaNumBqKeygramTells
import Derived.Deep.RegionHeld3
import Derived.Deep.RegionLaw
import Derived.BigQuiet
import Derived.Deep.QuietTactic
namespace Go.Proofs.Ytpephndecdkfhaa
open Go.RowKit Go.Proofs.YtpephndecdkfhaaW.PrintWords Go.Proofs.YtpephndecdkfhaaW.PrintLast Go.Proofs.YtpephndecdkfhaaW.PrintMore
set_option linter.unusedVariables false
set_option linter.unusedSimpArgs false
set_option maxRecDepth 100000 in
set_option maxHeartbeats 4000000 in
theorem put_any (w0 W : World) (base g : Nat) (v : Value) (out : List Int) (A : Option Addr) (c : Nat) (xs : List Int) (hbox : W.heap[g]? = some (.cells #[v] 27 (0, 0))) (HO : Kd.R (Kd.int .u8) 5 W base (fun k => k ≠ g) v out)
    (HB : Below base w0 W) (hbase : base ≤ W.heap.size) (hg : base ≤ g) (hC : Kd.C (Kd.int .u64) W A xs.length xs) (h64 : In64 xs) (hlen : xs.length ≤ 1000) (hout : out.length ≤ 100000000) :
    Calls Try.prog 60 #[.slice A xs.length c, .pointer (some ⟨g, 0, none⟩)] W fun e w' => e = .returned (.tuple #[]) ∧ ∃ v1, w'.heap[g]? = some (.cells #[v1] 27 (0, 0)) ∧ Kd.R (Kd.int .u8) 5 w' base (fun k => k ≠ g) v1 (out ++ encAll xs) ∧ Below base w0 w' := by
  have hcell : W.cell? ⟨g, 0, none⟩ = some v := (blk_cell hbox 0).trans rfl
  have hfz := blk_frozen hbox 0
  have hlen2 := encAll_len h64
  have HBX := Aside0.mk hbox
  have HO1 := Aside0.mk HO
  have HB1 := Aside0.mk HB
  have HC := Aside0.mk hC
  have H64 := Aside0.mk h64
  have HL := Aside0.mk (And.intro hlen hlen2)
  have HBS := Aside0.mk hbase
  clear hbox HO HB hC h64 hlen2 hbase
  go_enter Try.func60, Try.ntmps60
  go_wp2
  refine start_ (n := 5) (S := fun w' => w'.cell? ⟨g, 0, none⟩ = some v) (ds := [4]) #[false, false, false, false, false] (by kernel_rfl) rfl rfl (hcell) (fun hHeld => ?_)
  refine pure_ (i := 1) (N := some 4) (v := ?_) (a' := ?_) #[false, true, false, false, false] rfl rfl (by kernel_rfl) (fun _ _ _ h => h) (Or.inl ⟨by rfl, ?_⟩) ?_ ?_
  rotate_left
  · intro w'
    go_simp
    with_reducible rfl
  rotate_left
  · simp only [Act.put, List.setIfInBounds_toArray, List.set_cons_zero, List.set_cons_succ, i64_w, i32_w]
    rfl
  refine take_ (i := 0) (N := some 3) (v := ?_) (a' := ?_) #[true, true, false, false, false] rfl rfl (by kernel_rfl) (fun _ _ _ h => h) (Or.inl ⟨by rfl, ?_⟩) hHeld ?_ ?_
  rotate_left
  · intro w' s0
    go_simp
    with_reducible rfl
  rotate_left
  · simp only [Act.put, List.setIfInBounds_toArray, List.set_cons_zero, List.set_cons_succ, i64_w, i32_w]
    rfl
  refine one_ (i := 2) (N := some 5) #[true, true, true, false, false] rfl rfl (by kernel_rfl) (by decide) (fun K hK => ?_)
  refine goes_ Try.func18 (by kernel_rfl) rfl #[.slice A xs.length c] (by rfl) rfl rfl (by first | (simp only [List.map_toArray, List.map_cons, List.map_nil]; done) | (simp only [List.map_toArray, List.map_cons, List.map_nil]; rfl)) ?_
  with_reducible refine (Bytes_any A c xs _ (Kd.C_below HC.out (by repeat (first | exact Below.refl _ _ | apply below_alloc | apply pw_below_drewN | apply below_drew1 | (refine Below.setCell ?_ (by simp) _)))) H64.out (by omega)).mono ?_
  rintro e w2 ⟨v2, rfl, hR, hbb⟩
  refine ⟨_, rfl, ?_⟩
  obtain ⟨A2, c2, rfl, hc2, hC2⟩ := Kd.R_reads hR
  have HD := Aside0.mk (show Below W.heap.size W w2 from below_step (by repeat (first | exact Below.refl _ _ | apply below_alloc | apply pw_below_drewN | apply below_drew1 | (refine Below.setCell ?_ (by simp) _))) hbb)
  have HC2 := Aside0.mk hC2
  have HK2 := Aside0.mk (show w2.cell? ⟨g, 0, none⟩ = some v from (blk_cell (blk_below HBX.out HD.out) 0).trans rfl)
  clear hR hbb hC2
  refine hK.out _ _ (HK2.out) (fun hHeld => ?_)
  clear hK K
  refine norm_ (a' := ?_) ?_ ?_
  rotate_left
  · show Act.put _ (some 5) _ = _
    simp only [Act.put, List.setIfInBounds_toArray, List.set_cons_zero, List.set_cons_succ, i64_w, i32_w]
    rfl
  refine one_ (i := 3) (N := some 6) #[true, true, true, true, false] rfl rfl (by kernel_rfl) (by decide) (fun K hK => ?_)
  refine Kd.R_append_rows_step (Kd.int .u8) (w0 := w0) base (by rfl) (.tmp 3) (.tmp 5) 27 5 (.int .u8 0) 1 (by rfl) Try.underlying27 info5 rfl (by decide) (by omega) v out (encAll xs) A2 _ c2 (fun k => k ≠ g) (fun _ => False) (by rfl) (by rfl) (Kd.R_below HO1.out (below_step HD.out (by repeat (first | exact Below.refl _ _ | apply below_alloc | apply pw_below_drewN | apply below_drew1 | (refine Below.setCell ?_ (by simp) _))))) (Kd.C_below HC2.out (by repeat (first | exact Below.refl _ _ | apply below_alloc | apply pw_below_drewN | apply below_drew1 | (refine Below.setCell ?_ (by simp) _)))) (fun _ _ h => h) (fun _ h => h.elim) (Kd.freshB (blk_below HBX.out (below_step HD.out (by repeat (first | exact Below.refl _ _ | apply below_alloc | apply pw_below_drewN | apply below_drew1 | (refine Below.setCell ?_ (by simp) _)))))) (below_then HB1.out HBS.out (below_step HD.out (by repeat (first | exact Below.refl _ _ | apply below_alloc | apply pw_below_drewN | apply below_drew1 | (refine Below.setCell ?_ (by simp) _))))) (Nat.le_trans HBS.out (Below.size (below_step HD.out (by repeat (first | exact Below.refl _ _ | apply below_alloc | apply pw_below_drewN | apply below_drew1 | (refine Below.setCell ?_ (by simp) _)))))) (by have := HL.out; omega) ?_
  intro v4 w4 ho hb hg4 hat
  obtain ⟨A4, c4, e4, hc4, -⟩ := Kd.R_reads ho
  clear hc4
  generalize (out ++ encAll xs).length = n4 at e4
  subst e4
  have HO4 := Aside0.mk ho
  have HB4 := Aside0.mk hb
  have HX4 := Aside0.mk (blk_grown (blk_below HBX.out (below_step HD.out (by repeat (first | exact Below.refl _ _ | apply below_alloc | apply pw_below_drewN | apply below_drew1 | (refine Below.setCell ?_ (by simp) _))))) hg4 (Kd.R_away HO1.out (fun _ hk => hk)))
  have hcl4 : w4.cell? ⟨g, 0, none⟩ = some v := (blk_cell HX4.out 0).trans rfl
  have hfz4 := blk_frozen HX4.out 0
  clear ho hb hg4 hat
  refine hK.out _ _ (hcl4) (fun hHeld => ?_)
  clear hK K
  refine norm_ (a' := ?_) ?_ ?_
  rotate_left
  · show Act.put _ (some 6) _ = _
    simp only [Act.put, List.setIfInBounds_toArray, List.set_cons_zero, List.set_cons_succ, i64_w, i32_w]
    rfl
  refine last_ (i := 4) (N := none) #[true, true, true, true, true] rfl rfl (by kernel_rfl) (by decide) (fun K hK => ?_)
  refine skip_ (w1 := ?_) (by rfl) rfl ?_ ?_
  rotate_left
  · go_simp
    rfl
  refine hK.out _ _ ?_
  clear hK K
  refine done_ (by kernel_rfl) ?_
  all_goals go_wp2
  all_goals go_end0
  all_goals exact ⟨rfl, _, by simpa using blk_set HX4.out 0 (.slice A4 n4 c4), Kd.R_far HO4.out (fun _ hk => hk) _, HB4.out.setCell hg _⟩
end Go.Proofs.Ytpephndecdkfhaa
