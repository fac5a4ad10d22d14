/- KeygramTells: what its proof leads to. No condition. -/
import Derived.Test.YtpephndecdkfhaaNumReadqKeygramTells
namespace Go.Proofs.Ytpephndecdkfhaa
open Go.RowKit Go.Proofs.YtpephndecdkfhaaW.PrintWords Go.Proofs.YtpephndecdkfhaaW.PrintLast Go.Proofs.YtpephndecdkfhaaW.PrintMore
set_option linter.unusedVariables false
set_option linter.unusedSimpArgs false

theorem info5 : (Try.prog.info? 5).map (fun i => (i.zero, i.size, i.bytes)) = some (some (.int .u8 0), 1, 1) := by kernel_rfl

theorem take_rd (l : List Int) (i : Nat) (h : i < l.length) : l.take (i + 1) = l.take i ++ [rd l i] := by
  rw [List.take_succ_eq_append_getElem h]
  simp [rd, List.getD_eq_getElem?_getD, List.getElem?_eq_getElem h]
theorem rd_mem (l : List Int) (i : Nat) (h : i < l.length) : rd l i ∈ l := by
  simp [rd, List.getD_eq_getElem?_getD, List.getElem?_eq_getElem h]
theorem wrapb (x : Int) (h0 : 0 ≤ x) (h1 : x < 256) : x % 256 = x := Int.emod_eq_of_lt h0 h1
theorem or_and (m : Int) (h0 : 0 ≤ m) (h1 : m < 18446744073709551616) : bits .or .u64 (bits .and .u64 m 127) 128 % 256 = 128 + m % 128 := by
  have e7 : (127 : Int).toNat = 127 := rfl
  have e8 : (128 : Int).toNat = 128 := rfl
  have ea : bits .and .u64 m 127 = m % 128 := by
    rw [u64_and m 127 h0 h1 (by decide) (by decide), e7, nat_mask7]; omega
  rw [ea, u64_or _ _ (by omega) (by omega) (by decide) (by decide), e8, Nat.or_comm, nat_join 7 128 _ (by decide) (by omega)]
  omega

/-- What holds within num.Bytes. -/
def BytesIn (l out : List Int) (k : Nat) (m : Int) : Prop := 0 ≤ m ∧ m < 18446744073709551616 ∧ out ++ encN m = encAll (l.take (k + 1)) ∧ out.length ≤ 10 * (k + 1)

set_option maxRecDepth 100000 in
set_option maxHeartbeats 1000000 in
theorem Bytes_any (A : Option Addr) (c : Nat) (l : List Int) (w : World) (hC : Kd.C (Kd.int .u64) w A l.length l) (h64 : In64 l) (hlen : l.length ≤ 1000000) :
    Calls Try.prog 18 #[.slice A l.length c] w fun r w' => ∃ v, r = .returned v ∧ Kd.R (Kd.int .u8) 5 w' w.heap.size (fun _ => True) v (encAll l) ∧ Below w.heap.size w w' := by
  have hm := hC.2.1
  have HC := Aside0.mk hC
  have H8 := Aside0.mk h64
  clear hC h64
  have HB := Aside0.mk (Below.refl w.heap.size w)
  go_enter Try.func18, Try.ntmps18
  go_wp2
  go_loopg [3, 8] l.length (fun kq v3 v8 w' => ∃ k : Nat, v8 = .int .i64 k ∧ k ≤ l.length ∧ Aside0 (kq = l.length - k) ∧ Aside0 (Kd.R (Kd.int .u8) 5 w' w.heap.size (fun _ => True) v3 (encAll (l.take k))) ∧ Aside0 (Below w.heap.size w w'))
  case atStart => exact ⟨0, rfl, Nat.zero_le _, ⟨by omega⟩, ⟨by simpa [encAll] using Kd.R_nil _ _ _ _ _⟩, HB⟩
  case round =>
    obtain ⟨k, rfl, hk, HK, HO, HB⟩ := hrel
    by_cases hlt : k < l.length
    · obtain ⟨ad, rfl, hc0⟩ := Kd.at_int HC.out (k : Int) (by omega) (by omega)
      simp only [Int.toNat_natCast] at hc0
      replace hc0 := (HB.out.cell (World.block_lt_of_cell? w _ hc0)).trans hc0
      have hx := H8.out _ (rd_mem l k hlt)
      have HL := Aside0.mk (encAll_len (H8.out.take k))
      have hx0 := hx.1
      have HX := Aside0.mk hx
      clear hx
      go_wp2
      go_loopg [3, 5] (rd l k).toNat (fun kq v3 v5 w' => ∃ (out : List Int) (m : Int), v5 = .int .u64 m ∧ 0 ≤ m ∧ Aside0 (kq = m.toNat) ∧ Aside0 (BytesIn l out k m) ∧ Aside0 (Kd.R (Kd.int .u8) 5 w' w.heap.size (fun _ => True) v3 out) ∧ Aside0 (Below w.heap.size w w'))
      case atStart => exact ⟨encAll (l.take k), _, rfl, hx0, ⟨rfl⟩, ⟨HX.out.1, HX.out.2, by rw [take_rd l k hlt, encAll_append, encAll_cons]; simp [encAll], by have := HL.out; rw [List.length_take] at this; omega⟩, ⟨(by (with_reducible repeat (first | apply Kd.R_alloc | apply Kd.R_drewN | apply Kd.R_drew)); exact HO.out)⟩, ⟨(by repeat (first | (with_reducible first | exact HB.out | apply below_alloc | apply pw_below_drewN | apply below_drew1) | exact HB.out))⟩⟩
      case round =>
        clear HO HB hc0
        obtain ⟨out, m, rfl, hm0, HK2, HI, HO, HB⟩ := hrel
        by_cases hbig : m < 128
        · have hb1 : decide (127 < m) = false := by simp; omega
          have hmod := Aside0.mk (wrapb m hm0 (by omega))
          go_wp2_with (first | ((with_reducible refine gate_builtin (b := .append) (xs := #[.tmp 23, .tmp 26]) rfl ?_); at_builtin; refine Kd.R_append (Kd.int .u8) (w0 := w) w.heap.size rfl (.tmp 23) (.tmp 26) 27 5 (.int .u8 0) 1 rfl Try.underlying27 info5 rfl (by decide) (by omega) u3 out m [.int .u8 m] (fun _ => True) (fun _ => False) rfl rfl ?aP (fun _ hk => hk.elim) (fun _ _ => trivial) ?aO ?aB ?aS ?aL ?_; (case aP => exact rfl); (case aB => exact (by repeat (first | (with_reducible first | exact HB.out | apply below_alloc | apply pw_below_drewN | apply below_drew1) | exact HB.out))); (case aO => exact (by (with_reducible repeat (first | apply Kd.R_alloc | apply Kd.R_drewN | apply Kd.R_drew)); exact HO.out)); (case aS => exact (below_size (by repeat (first | (with_reducible first | exact HB.out | apply below_alloc | apply pw_below_drewN | apply below_drew1) | exact HB.out)))); (case aL => have := HI.out.2.2.2; omega); intro vq wq ho hb hg hat; have n0_ := Aside0.mk hb; have n1_ := Aside0.mk ho; clear HB; clear HO; have HB := n0_; have HO2 := n1_; clear n0_ n1_ ho hb hg hat))
          go_roundg (l.length - (k + 1))
          case measure => have := HK.out; omega
          case rel => exact ⟨k + 1, by go_num, by omega, ⟨rfl⟩, ⟨by have h2 := HO2.out; rw [← encN_small hbig, HI.out.2.2.1] at h2; exact h2⟩, ⟨(by repeat (first | (with_reducible first | exact HB.out | apply below_alloc | apply pw_below_drewN | apply below_drew1) | exact HB.out))⟩⟩
        · have hb1 : decide (127 < m) = true := by simp; omega
          have hmod := Aside0.mk (or_and m hm0 HI.out.2.1)
          go_wp2_with (first | ((with_reducible refine gate_builtin (b := .append) (xs := #[.tmp 16, .tmp 21]) rfl ?_); at_builtin; refine Kd.R_append (Kd.int .u8) (w0 := w) w.heap.size rfl (.tmp 16) (.tmp 21) 27 5 (.int .u8 0) 1 rfl Try.underlying27 info5 rfl (by decide) (by omega) u3 out (bits .or .u64 (bits .and .u64 m 127) 128 % 256) [.int .u8 (bits .or .u64 (bits .and .u64 m 127) 128 % 256)] (fun _ => True) (fun _ => False) rfl rfl ?aP (fun _ hk => hk.elim) (fun _ _ => trivial) ?aO ?aB ?aS ?aL ?_; (case aP => exact rfl); (case aB => exact (by repeat (first | (with_reducible first | exact HB.out | apply below_alloc | apply pw_below_drewN | apply below_drew1) | exact HB.out))); (case aO => exact (by (with_reducible repeat (first | apply Kd.R_alloc | apply Kd.R_drewN | apply Kd.R_drew)); exact HO.out)); (case aS => exact (below_size (by repeat (first | (with_reducible first | exact HB.out | apply below_alloc | apply pw_below_drewN | apply below_drew1) | exact HB.out)))); (case aL => have := HI.out.2.2.2; omega); intro vq wq ho hb hg hat; have n0_ := Aside0.mk hb; have n1_ := Aside0.mk ho; clear HB; clear HO; have HB := n0_; have HO2 := n1_; clear n0_ n1_ ho hb hg hat))
          go_roundg ((m / 128).toNat)
          case measure => have := HK2.out; omega
          case rel =>
            obtain ⟨_, h2, h3, h4⟩ := HI.out
            have he : (out ++ [128 + m % 128]) ++ encN (m / 128) = encAll (l.take (k + 1)) := by rw [← h3, encN_big (show ¬ m < 128 by omega)]; simp
            refine ⟨out ++ [128 + m % 128], m / 128, rfl, by omega, ⟨rfl⟩, ⟨by omega, by omega, he, ?_⟩, ⟨by rw [hmod.out] at HO2; exact HO2.out⟩, ⟨(by repeat (first | (with_reducible first | exact HB.out | apply below_alloc | apply pw_below_drewN | apply below_drew1) | exact HB.out))⟩⟩
            have h5 := encAll_len (H8.out.take (k + 1))
            rw [← he, List.length_append] at h5
            rw [List.length_take] at h5
            omega
    · have hk' : k = l.length := by omega
      have HT := Aside0.mk (show l.take k = l by rw [hk', List.take_length])
      clear hk'
      go_wp2
      go_ret
      exact ⟨_, rfl, by rw [← HT.out]; exact HO.out, HB.out⟩
end Go.Proofs.Ytpephndecdkfhaa
