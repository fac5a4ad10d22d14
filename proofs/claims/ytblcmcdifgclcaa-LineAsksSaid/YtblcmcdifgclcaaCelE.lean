/- Cells: the document's runes of a cell. -/
import Derived.Test.YtblcmcdifgclcaaCelD
namespace Go.Proofs.Ytblcmcdifgclcaa
open Go.RowKit Go.Proofs.YtblcmcdifgclcaaW.PrintWords Go.Proofs.YtblcmcdifgclcaaW.PrintLast Go.Proofs.YtblcmcdifgclcaaW.PrintMore
set_option linter.unusedVariables false
set_option linter.unusedSimpArgs false
theorem info3 : (Try.prog.info? 3).map (fun i => (i.zero, i.size, i.bytes)) = some (some (.int .i64 0), 1, 8) := by kernel_rfl
set_option maxHeartbeats 4000000 in
set_option maxRecDepth 100000 in
theorem refRunes_any (c0 c1 c2 c3 c4 c5 c6 : Int) (w : World) : Calls Try.prog 31 #[.agg #[.int .i64 c0, .int .i64 c1, .int .i64 c2, .int .u8 c3, .int .u8 c4, .int .u8 c5, .int .u8 c6]] w fun e w' => ∃ v, e = .returned v ∧ Kd.R (Kd.int .i64) 3 w' w.heap.size (fun _ => True) v (runesC c0 c1 c2 c3) ∧ Below w.heap.size w w' := by
  have hub := Try.underlying32
  have hua := Try.underlying29
  have hup := Try.underlying30
  obtain ⟨b1, hb1⟩ : ∃ b, (c3 != 1) = b := ⟨_, rfl⟩
  obtain ⟨b2, hb2⟩ : ∃ b, (c3 != 2) = b := ⟨_, rfl⟩
  have HB0 := Aside0.mk (And.intro hb1 hb2)
  obtain ⟨res, hres⟩ : ∃ l, runesC c0 c1 c2 c3 = l := ⟨_, rfl⟩
  rw [hres]
  have HR := Aside0.mk hres
  clear hres
  by_cases hq : b1 = true ∧ b2 = true
  · obtain ⟨rfl, rfl⟩ := hq
    have hr := Aside0.mk (show ([] : List Int) = res by
      have h1 := HB0.out.1; have h2 := HB0.out.2
      simp at h1 h2
      rw [← HR.out, runesC, if_neg (by omega)])
    go_enter Try.func31, Try.ntmps31
    go_wp2
    go_ret
    exact ⟨_, rfl, by rw [← hr.out]; exact Kd.R_nil _ _ _ _ _, (by repeat (first | exact Below.refl _ _ | apply below_alloc | apply pw_below_drewN | apply below_drew1 | (refine Below.setCell ?_ (by simp) _)))⟩
  · have hr := Aside0.mk (show [c0] ++ nzs [c1, c2] = res by
      have h1 := HB0.out.1; have h2 := HB0.out.2
      have : c3 = 1 ∨ c3 = 2 := by
        cases b1
        · left; simpa using h1
        · cases b2
          · right; simpa using h2
          · exact absurd ⟨rfl, rfl⟩ hq
      rw [← HR.out, runesC, if_pos this])
    clear HR
    have HQ := Aside0.mk hq
    clear hq
    obtain ⟨w0, hw0⟩ : ∃ w0, w0 = w.alloc (.cells #[.int .i64 c0, .int .i64 c1, .int .i64 c2, .int .u8 c3, .int .u8 c4, .int .u8 c5, .int .u8 c6] 32) := ⟨_, rfl⟩
    have HW0 := Aside0.mk hw0
    have BX0 := Aside0.mk (show w0.heap[w.heap.size]? = some (.cells #[.int .i64 c0, .int .i64 c1, .int .i64 c2, .int .u8 c3, .int .u8 c4, .int .u8 c5, .int .u8 c6] 32 (0, 0)) by rw [hw0]; exact blk_new w _)
    have HS0 := Aside0.mk (show w.heap.size ≤ w0.heap.size by rw [hw0]; exact Nat.le_of_lt (box_lt w _))
    clear hw0
    cases b1 <;> cases b2
    case true.true => exact absurd ⟨rfl, rfl⟩ HQ.out
    all_goals
      clear HQ
      go_enter Try.func31, Try.ntmps31
      go_wp2
      go_loopg [3, 4] 3 (fun kq v3 v4 w' => ∃ i : Nat, v4 = .int .i64 i ∧ i ≤ 2 ∧ Aside0 (kq = 3 - i) ∧ Aside0 (Kd.R (Kd.int .i64) 3 w' w0.heap.size (fun _ => True) v3 ([c0] ++ nzs ([c1, c2].take i))) ∧ Aside0 (Below w0.heap.size w0 w'))
      case atStart => exact ⟨0, rfl, by omega, ⟨rfl⟩, ⟨by rw [HW0.out]; exact R_lit_at .i64 (W := w.alloc _) _ 3 _ [c0] (by simp) (Nat.le_refl _) (by simp)⟩, ⟨by rw [HW0.out]; exact below_alloc (Below.refl _ _) _⟩⟩
      case round =>
        obtain ⟨i, rfl, hi, HK, HO, HB⟩ := hrel
        have HX := Aside0.mk (blk_below BX0.out HB.out)
        by_cases hlt : i < 2
        · have hc1 : wr.cell? ⟨w.heap.size, 1 + i, none⟩ = some (.int .i64 (rd [c1, c2] (i : Int))) := by
            match i, hlt with
            | 0, _ => exact (blk_cell HX.out 1).trans rfl
            | 1, _ => exact (blk_cell HX.out 2).trans rfl
            | i + 2, h => omega
          have hia : decide (0 ≤ (i : Int) ∧ (i : Int) < 2) = true := by simp; omega
          obtain ⟨out, hout⟩ : ∃ o, [c0] ++ nzs ([c1, c2].take i) = o := ⟨_, rfl⟩
          rw [hout] at HO
          obtain ⟨x, hx⟩ : ∃ x, rd [c1, c2] (i : Int) = x := ⟨_, rfl⟩
          simp only [hx] at hc1
          have HL := Aside0.mk (show out.length ≤ 5 by rw [← hout]; exact nzs_len c0 _ (by rw [List.length_take]; simp; omega))
          have HN := Aside0.mk (show [c0] ++ nzs ([c1, c2].take (i + 1)) = out ++ nz x by rw [← hout, ← hx]; exact nzs_next c0 c1 c2 i hlt)
          clear hout hx
          by_cases hz : x = 0
          · have hzb : (x != 0) = false := by simp [hz]
            have HN2 := Aside0.mk (show [c0] ++ nzs ([c1, c2].take (i + 1)) = out by rw [HN.out, nz, if_pos hz, List.append_nil])
            clear hz HN
            go_wp2
            go_roundg (3 - (i + 1))
            case measure => have := HK.out; omega
            case rel => exact ⟨i + 1, by go_num, by omega, ⟨rfl⟩, ⟨by rw [HN2.out]; exact HO.out⟩, HB⟩
          · have hzb : (x != 0) = true := by simp [hz]
            have HN2 := Aside0.mk (show [c0] ++ nzs ([c1, c2].take (i + 1)) = out ++ [x] by rw [HN.out, nz, if_neg hz])
            clear hz HN
            go_wp2_with (first | ((with_reducible refine gate_builtin (b := .append) (xs := #[.tmp 25, .tmp 30]) rfl ?_); at_builtin; refine Kd.R_append (Kd.int .i64) (w0 := w0) w0.heap.size rfl (.tmp 25) (.tmp 30) 52 3 (.int .i64 0) 8 rfl Try.underlying52 info3 rfl (by decide) (by omega) u3 out x [.int .i64 x] (fun _ => True) (fun _ => False) rfl rfl ?aP (fun _ hk => hk.elim) (fun _ _ => trivial) ?aO ?aB ?aS ?aL ?_; (case aP => exact rfl); (case aB => exact (by repeat (first | (with_reducible first | exact HB.out | apply below_alloc | apply pw_below_drewN | apply below_drew1) | exact HB.out))); (case aO => exact (by (with_reducible repeat (first | apply Kd.R_alloc | apply Kd.R_drewN | apply Kd.R_drew)); exact HO.out)); (case aS => exact (below_size (by repeat (first | (with_reducible first | exact HB.out | apply below_alloc | apply pw_below_drewN | apply below_drew1) | exact HB.out)))); (case aL => have := HL.out; omega); intro vq wq ho hb hg hat; have n0_ := Aside0.mk hb; have n1_ := Aside0.mk ho; clear HB; clear HO; have HB := n0_; have HO2 := n1_; clear n0_ n1_ ho hb hg hat))
            go_roundg (3 - (i + 1))
            case measure => have := HK.out; omega
            case rel => exact ⟨i + 1, by go_num, by omega, ⟨rfl⟩, ⟨by rw [HN2.out]; exact HO2.out⟩, ⟨(by repeat (first | (with_reducible first | exact HB.out | apply below_alloc | apply pw_below_drewN | apply below_drew1) | exact HB.out))⟩⟩
        · obtain rfl : i = 2 := by omega
          clear hi hlt
          go_wp2
          go_ret
          exact ⟨_, rfl, by rw [← hr.out]; exact Kd.R_lower HO.out HS0.out, below_step (by rw [HW0.out]; exact below_alloc (Below.refl _ _) _) HB.out⟩
end Go.Proofs.Ytblcmcdifgclcaa
