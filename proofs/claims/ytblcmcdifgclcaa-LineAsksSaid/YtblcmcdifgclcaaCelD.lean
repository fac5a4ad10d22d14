/- Cells: the runes of a cell, the program's and the document's. -/
import Derived.Test.YtblcmcdifgclcaaCelC
import Derived.Test.YtblcmcdifgclcaaLit
namespace Go.Proofs.Ytblcmcdifgclcaa
open Go.RowKit Go.Proofs.YtblcmcdifgclcaaW.PrintWords Go.Proofs.YtblcmcdifgclcaaW.PrintLast Go.Proofs.YtblcmcdifgclcaaW.PrintMore
set_option linter.unusedVariables false
set_option linter.unusedSimpArgs false
def nz (x : Int) : List Int := if x = 0 then [] else [x]
def nzs (l : List Int) : List Int := l.flatMap nz
/-- A cell's runes. -/
def runesC (c0 c1 c2 c3 : Int) : List Int := if c3 = 1 ∨ c3 = 2 then [c0] ++ nzs [c1, c2] else []
theorem nzs_len (c0 : Int) (l : List Int) (h : l.length ≤ 2) : ([c0] ++ nzs l).length ≤ 5 := by
  match l, h with
  | [], _ => simp [nzs]
  | [a], _ => simp [nzs, nz]; split <;> simp
  | [a, b], _ => simp [nzs, nz]; split <;> split <;> simp
  | _ :: _ :: _ :: _, h => simp at h
theorem nzs_next (c0 c1 c2 : Int) (i : Nat) (h : i < 2) : [c0] ++ nzs ([c1, c2].take (i + 1)) = ([c0] ++ nzs ([c1, c2].take i)) ++ nz (rd [c1, c2] (i : Int)) := by
  match i, h with
  | 0, _ => simp [nzs, rd]
  | 1, _ => simp [nzs, rd]
  | i + 2, h => omega
set_option maxRecDepth 100000 in
theorem idx_cellRunes (c1 c2 : Int) (i : Nat) (hi : i < 2) : ∀ W, (Instr.index 22 (.agg #[.int .i32 c1, .int .i32 c2]) (.int .i64 (i : Int))).run Try.prog W = .ok (.int .i32 (rd [c1, c2] (i : Int))) W := by
  match i, hi with
  | 0, _ => exact fun W => by kernel_rfl
  | 1, _ => exact fun W => by kernel_rfl
  | i + 2, h => omega
theorem info21 : (Try.prog.info? 21).map (fun i => (i.zero, i.size, i.bytes)) = some (some (.int .i32 0), 1, 4) := by kernel_rfl
set_option maxHeartbeats 4000000 in
set_option maxRecDepth 100000 in
theorem cellRunes_any (c0 c1 c2 c3 c4 c5 c6 : Int) (w : World) : Calls Try.prog 30 #[.agg #[.int .i32 c0, .int .i32 c1, .int .i32 c2, .int .u8 c3, .int .u8 c4, .int .u8 c5, .int .u8 c6]] w fun e w' => ∃ v, e = .returned v ∧ Kd.R (Kd.int .i32) 21 w' w.heap.size (fun _ => True) v (runesC c0 c1 c2 c3) ∧ Below w.heap.size w w' := by
  have hub := Try.underlying26
  have hua := Try.underlying22
  have hup := Try.underlying24
  obtain ⟨b1, hb1⟩ : ∃ b, (c3 != 1) = b := ⟨_, rfl⟩
  obtain ⟨b2, hb2⟩ : ∃ b, (c3 != 2) = b := ⟨_, rfl⟩
  have HB0 := Aside0.mk (And.intro hb1 hb2)
  obtain ⟨res, hres⟩ : ∃ l, runesC c0 c1 c2 c3 = l := ⟨_, rfl⟩
  rw [hres]
  have HR := Aside0.mk hres
  clear hres
  by_cases hq : b1 = true ∧ b2 = true
  · obtain ⟨rfl, rfl⟩ := hq
    have hr := Aside0.mk (show ([] : List Int) = res by
      have h1 := HB0.out.1; have h2 := HB0.out.2
      simp at h1 h2
      rw [← HR.out, runesC, if_neg (by omega)])
    go_enter Try.func30, Try.ntmps30
    go_wp2
    go_ret
    exact ⟨_, rfl, by rw [← hr.out]; exact Kd.R_nil _ _ _ _ _, (by repeat (first | exact Below.refl _ _ | apply below_alloc | apply pw_below_drewN | apply below_drew1 | (refine Below.setCell ?_ (by simp) _)))⟩
  · have hr := Aside0.mk (show [c0] ++ nzs [c1, c2] = res by
      have h1 := HB0.out.1; have h2 := HB0.out.2
      have : c3 = 1 ∨ c3 = 2 := by
        cases b1
        · left; simpa using h1
        · cases b2
          · right; simpa using h2
          · exact absurd ⟨rfl, rfl⟩ hq
      rw [← HR.out, runesC, if_pos this])
    clear HR
    have HQ := Aside0.mk hq
    clear hq
    cases b1 <;> cases b2
    case true.true => exact absurd ⟨rfl, rfl⟩ HQ.out
    all_goals
      clear HQ
      go_enter Try.func30, Try.ntmps30
      go_wp2
      go_loopg [3, 19] 3 (fun kq v3 v19 w' => ∃ i : Nat, v19 = .int .i64 i ∧ i ≤ 2 ∧ Aside0 (kq = 3 - i) ∧ Aside0 (Kd.R (Kd.int .i32) 21 w' w.heap.size (fun _ => True) v3 ([c0] ++ nzs ([c1, c2].take i))) ∧ Aside0 (Below w.heap.size w w'))
      case atStart => exact ⟨0, rfl, by omega, ⟨rfl⟩, ⟨R_lit_at .i32 (W := w.alloc _) w.heap.size 21 _ [c0] (by simp) (by simp) (by simp)⟩, ⟨(by repeat (first | exact Below.refl _ _ | apply below_alloc | apply pw_below_drewN | apply below_drew1 | (refine Below.setCell ?_ (by simp) _)))⟩⟩
      case round =>
        obtain ⟨i, rfl, hi, HK, HO, HB⟩ := hrel
        by_cases hlt : i < 2
        · have hix := idx_cellRunes c1 c2 i hlt
          obtain ⟨out, hout⟩ : ∃ o, [c0] ++ nzs ([c1, c2].take i) = o := ⟨_, rfl⟩
          rw [hout] at HO
          obtain ⟨x, hx⟩ : ∃ x, rd [c1, c2] (i : Int) = x := ⟨_, rfl⟩
          simp only [hx] at hix
          have HL := Aside0.mk (show out.length ≤ 5 by rw [← hout]; exact nzs_len c0 _ (by rw [List.length_take]; simp; omega))
          have HN := Aside0.mk (show [c0] ++ nzs ([c1, c2].take (i + 1)) = out ++ nz x by rw [← hout, ← hx]; exact nzs_next c0 c1 c2 i hlt)
          clear hout hx
          by_cases hz : x = 0
          · have hzb : (x != 0) = false := by simp [hz]
            have HN2 := Aside0.mk (show [c0] ++ nzs ([c1, c2].take (i + 1)) = out by rw [HN.out, nz, if_pos hz, List.append_nil])
            clear hz HN
            go_wp2
            go_roundg (3 - (i + 1))
            case measure => have := HK.out; omega
            case rel => exact ⟨i + 1, by go_num, by omega, ⟨rfl⟩, ⟨by rw [HN2.out]; exact HO.out⟩, HB⟩
          · have hzb : (x != 0) = true := by simp [hz]
            have HN2 := Aside0.mk (show [c0] ++ nzs ([c1, c2].take (i + 1)) = out ++ [x] by rw [HN.out, nz, if_neg hz])
            clear hz HN
            go_wp2_with (first | ((with_reducible refine gate_builtin (b := .append) (xs := #[.tmp 24, .tmp 26]) rfl ?_); at_builtin; refine Kd.R_append (Kd.int .i32) (w0 := w) w.heap.size rfl (.tmp 24) (.tmp 26) 50 21 (.int .i32 0) 4 rfl Try.underlying50 info21 rfl (by decide) (by omega) u3 out x [.int .i32 x] (fun _ => True) (fun _ => False) rfl rfl ?aP (fun _ hk => hk.elim) (fun _ _ => trivial) ?aO ?aB ?aS ?aL ?_; (case aP => exact rfl); (case aB => exact (by repeat (first | (with_reducible first | exact HB.out | apply below_alloc | apply pw_below_drewN | apply below_drew1) | exact HB.out))); (case aO => exact (by (with_reducible repeat (first | apply Kd.R_alloc | apply Kd.R_drewN | apply Kd.R_drew)); exact HO.out)); (case aS => exact (below_size (by repeat (first | (with_reducible first | exact HB.out | apply below_alloc | apply pw_below_drewN | apply below_drew1) | exact HB.out)))); (case aL => have := HL.out; omega); intro vq wq ho hb hg hat; have n0_ := Aside0.mk hb; have n1_ := Aside0.mk ho; clear HB; clear HO; have HB := n0_; have HO2 := n1_; clear n0_ n1_ ho hb hg hat))
            go_roundg (3 - (i + 1))
            case measure => have := HK.out; omega
            case rel => exact ⟨i + 1, by go_num, by omega, ⟨rfl⟩, ⟨by rw [HN2.out]; exact HO2.out⟩, ⟨(by repeat (first | (with_reducible first | exact HB.out | apply below_alloc | apply pw_below_drewN | apply below_drew1) | exact HB.out))⟩⟩
        · obtain rfl : i = 2 := by omega
          clear hi hlt
          go_wp2
          go_ret
          exact ⟨_, rfl, by rw [← hr.out]; exact HO.out, HB.out⟩
end Go.Proofs.Ytblcmcdifgclcaa
