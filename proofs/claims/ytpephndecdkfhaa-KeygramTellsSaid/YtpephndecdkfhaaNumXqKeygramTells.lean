/- KeygramTells: what its proof leads to. No condition. -/
import Derived.Test.YtpephndecdkfhaaNumTqKeygramTells
namespace Go.Proofs.Ytpephndecdkfhaa
open Go.RowKit Go.Proofs.YtpephndecdkfhaaW.PrintWords Go.Proofs.YtpephndecdkfhaaW.PrintLast Go.Proofs.YtpephndecdkfhaaW.PrintMore
set_option linter.unusedVariables false
set_option linter.unusedSimpArgs false

set_option maxRecDepth 100000 in
set_option maxHeartbeats 1000000 in
theorem rBytes_any (n : Int) (w : World) (h0 : 0 ≤ n) (h1 : n < 18446744073709551616) :
    Calls Try.prog 23 #[.int .u64 n] w fun r w' => ∃ v, r = .returned v ∧ Kd.R (Kd.int .u8) 5 w' w.heap.size (fun _ => True) v (encN n) ∧ Below w.heap.size w w' := by
  have HL := Aside0.mk (encN_len10 n h1)
  have HB := Aside0.mk (Below.refl w.heap.size w)
  have H1 := Aside0.mk h1
  clear h1
  go_enter Try.func23, Try.ntmps23
  go_wp2
  go_loopg [0, 3] n.toNat (fun kq v0 v3 w' => ∃ (m : Int) (out : List Int), v0 = .int .u64 m ∧ 0 ≤ m ∧ Aside0 (kq = m.toNat) ∧ Aside0 (m < 18446744073709551616 ∧ out ++ encN m = encN n) ∧ Aside0 (Kd.R (Kd.int .u8) 5 w' w.heap.size (fun _ => True) v3 out) ∧ Aside0 (Below w.heap.size w w'))
  case atStart => exact ⟨n, [], rfl, h0, ⟨rfl⟩, ⟨H1.out, rfl⟩, ⟨Kd.R_nil _ _ _ _ _⟩, HB⟩
  case round =>
    clear HB
    obtain ⟨m, out, rfl, hm0, HK, HI, HO, HB⟩ := hrel
    have hol : out.length ≤ 10 := by have := congrArg List.length HI.out.2; rw [List.length_append] at this; have := HL.out; omega
    by_cases hbig : m < 128
    · have hb1 : decide (128 ≤ m) = false := decide_eq_false (by omega)
      go_wp2_with (first | ((with_reducible refine gate_builtin (b := .append) (xs := #[.tmp 15, .tmp 18]) rfl ?_); at_builtin; refine Kd.R_append (Kd.int .u8) (w0 := w) w.heap.size rfl (.tmp 15) (.tmp 18) 27 5 (.int .u8 0) 1 rfl Try.underlying27 info5 rfl (by decide) (by omega) u3 out m [.int .u8 m] (fun _ => True) (fun _ => False) rfl rfl ?aP (fun _ hk => hk.elim) (fun _ _ => trivial) ?aO ?aB ?aS ?aL ?_; (case aP => exact rfl); (case aB => exact (by repeat (first | (with_reducible first | exact HB.out | apply below_alloc | apply pw_below_drewN | apply below_drew1) | exact HB.out))); (case aO => exact (by (with_reducible repeat (first | apply Kd.R_alloc | apply Kd.R_drewN | apply Kd.R_drew)); exact HO.out)); (case aS => exact (below_size (by repeat (first | (with_reducible first | exact HB.out | apply below_alloc | apply pw_below_drewN | apply below_drew1) | exact HB.out)))); (case aL => omega); intro vq wq ho hb hg hat; have n0_ := Aside0.mk hb; have n1_ := Aside0.mk ho; clear HB; clear HO; have HB := n0_; have HO2 := n1_; clear n0_ n1_ ho hb hg hat))
      go_ret
      exact ⟨_, rfl, by have h2 := HO2.out; rw [← encN_small hbig, HI.out.2] at h2; exact h2, HB.out⟩
    · have hb1 : decide (128 ≤ m) = true := decide_eq_true (by omega)
      have hm1 : m ≤ 18446744073709551615 := by have := HI.out.1; omega
      have HM := Aside0.mk (show (128 + m % 128) % 256 = 128 + m % 128 by omega)
      go_wp2_with (first | ((with_reducible refine gate_builtin (b := .append) (xs := #[.tmp 6, .tmp 11]) rfl ?_); at_builtin; refine Kd.R_append (Kd.int .u8) (w0 := w) w.heap.size rfl (.tmp 6) (.tmp 11) 27 5 (.int .u8 0) 1 rfl Try.underlying27 info5 rfl (by decide) (by omega) u3 out (128 + m % 128) [.int .u8 (128 + m % 128)] (fun _ => True) (fun _ => False) rfl rfl ?aP (fun _ hk => hk.elim) (fun _ _ => trivial) ?aO ?aB ?aS ?aL ?_; (case aP => exact rfl); (case aB => exact (by repeat (first | (with_reducible first | exact HB.out | apply below_alloc | apply pw_below_drewN | apply below_drew1) | exact HB.out))); (case aO => exact (by (with_reducible repeat (first | apply Kd.R_alloc | apply Kd.R_drewN | apply Kd.R_drew)); exact HO.out)); (case aS => exact (below_size (by repeat (first | (with_reducible first | exact HB.out | apply below_alloc | apply pw_below_drewN | apply below_drew1) | exact HB.out)))); (case aL => omega); intro vq wq ho hb hg hat; have n0_ := Aside0.mk hb; have n1_ := Aside0.mk ho; clear HB; clear HO; have HB := n0_; have HO2 := n1_; clear n0_ n1_ ho hb hg hat))
      go_roundg ((m / 128).toNat)
      case measure => have := HK.out; omega
      case rel => exact ⟨m / 128, out ++ [128 + m % 128], rfl, by omega, ⟨rfl⟩, ⟨by have := HI.out.1; omega, by rw [← HI.out.2, encN_big (show ¬ m < 128 by omega)]; simp⟩, ⟨(by (with_reducible repeat (first | apply Kd.R_alloc | apply Kd.R_drewN | apply Kd.R_drew)); exact HO2.out)⟩, ⟨(by repeat (first | (with_reducible first | exact HB.out | apply below_alloc | apply pw_below_drewN | apply below_drew1) | exact HB.out))⟩⟩
end Go.Proofs.Ytpephndecdkfhaa
