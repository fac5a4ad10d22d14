/- The chapter's examples; prolepsisref01.All. -/
import Derived.Test.YtjomlpogdemgpaaNumX
namespace Go.Proofs.Ytjomlpogdemgpaa
open Go.RowKit Go.Proofs.YtjomlpogdemgpaaW.PrintWords Go.Proofs.YtjomlpogdemgpaaW.PrintLast Go.Proofs.YtjomlpogdemgpaaW.PrintMore
set_option linter.unusedVariables false
set_option linter.unusedSimpArgs false

theorem C_lit_at (k : IntKind) {W : World} (e g : Nat) (xs : List Int) (hg : g = W.heap.size) (hm : xs.length ≤ 9223372036854775807) :
    (Kd.int k).C (W.alloc (.cells (nums k xs).toArray e)) (some ⟨g, 0, none⟩) xs.length xs := by
  obtain ⟨A, c, he, _, hC⟩ := Kd.R_reads (R_lit_at k (W := W) 0 e g xs hg (Nat.zero_le _) hm)
  injection he with h1 h2 h3
  rw [h1]
  exact hC

theorem enc_max : (encN 18446744073709551615).length = 10 := by
  rw [encN_big (by decide), encN_big (by decide), encN_big (by decide), encN_big (by decide), encN_big (by decide), encN_big (by decide), encN_big (by decide), encN_big (by decide), encN_big (by decide), encN_small (by decide)]
  rfl
theorem enc_300 : encAll [0, 300] = [0, 172, 2] := by
  rw [encAll_cons, encAll_cons, encN_small (by decide), encN_big (by decide), encN_small (by decide)]
  rfl
theorem Size_max (w : World) : Calls Try.prog 28 #[.int .u64 18446744073709551615] w fun r w' => r = .returned (.int .i64 10) ∧ w' = w := by
  have h := Size_any 18446744073709551615 w (by decide) (by decide)
  rw [enc_max] at h
  exact h
theorem Add_max (w : World) : Calls Try.prog 13 #[.int .u64 18446744073709551615, .int .u64 1] w fun r w' => r = .returned (.int .u64 18446744073709551615) ∧ w' = w :=
  Add_any 18446744073709551615 1 w (by decide) (by decide) (by decide) (by decide)
theorem Sub_12 (w : World) : Calls Try.prog 14 #[.int .u64 1, .int .u64 2] w fun r w' => r = .returned (.int .u64 0) ∧ w' = w :=
  Sub_any 1 2 w (by decide) (by decide) (by decide) (by decide)

set_option maxRecDepth 100000 in
set_option maxHeartbeats 1000000 in
theorem known_any (w : World) : Calls Try.prog 15 #[] w fun r w' => r = .returned (.bool true) ∧ Below w.heap.size w w' := by
  have HB := Aside0.mk (Bytes_any (some ⟨w.heap.size, 0, none⟩) 2 [0, 300] (w.alloc (.cells #[.int .u64 0, .int .u64 300] 22)) (C_lit_at .u64 _ _ [0, 300] rfl (by decide)) (In64.cons (by decide) (by decide) (In64.cons (by decide) (by decide) In64.nil)) (by decide))
  rw [enc_300] at HB
  go_enter Try.func15, Try.ntmps15
  go_wp2_with (first | (go_at_call 24; refine HB.out.mono ?_; rintro r w1 ⟨v, rfl, hR, hb⟩; obtain ⟨A, c, rfl, -, hC⟩ := Kd.R_reads hR; have HS := Aside0.mk (rSame_any A (some ⟨w1.heap.size, 0, none⟩) c 3 [0, 172, 2] [0, 172, 2] _ (C_below0 hC (below_alloc (Below.refl _ _) _)) (C_lit_at .u8 (W := w1) 5 _ [0, 172, 2] rfl (by decide)) (In8.cons (by decide) (by decide) (In8.cons (by decide) (by decide) (In8.cons (by decide) (by decide) In8.nil))) (In8.cons (by decide) (by decide) (In8.cons (by decide) (by decide) (In8.cons (by decide) (by decide) In8.nil)))); have HX := Aside0.mk (below_step (below_alloc (Below.refl _ _) _) hb); clear hR hb hC) | (go_at_call 25; refine HS.out.mono ?_; rintro r w2 ⟨rfl, rfl⟩) | (go_at_call 28; refine (Size_max _).mono ?_; rintro r w3 ⟨rfl, rfl⟩) | (go_at_call 13; refine (Add_max _).mono ?_; rintro r w3 ⟨rfl, rfl⟩) | (go_at_call 14; refine (Sub_12 _).mono ?_; rintro r w3 ⟨rfl, rfl⟩) | (go_at_call 31; refine (New_any none 0 [] _ _ (Below.refl _ _) (Kd.C_nil _ _) (Nat.le_refl _)).mono ?_; rintro r w4 ⟨g, rfl, hR, hb, -⟩; have HE := Aside0.mk (Err_at _ _ _ _ _ _ hR); have HY := Aside0.mk hb; clear hR hb) | (go_at_call 41; refine HE.out.mono ?_; rintro r w5 ⟨rfl, rfl⟩))
  go_ret
  exact ⟨rfl, below_step (below_alloc HX.out _) HY.out⟩

set_option maxRecDepth 100000 in
set_option maxHeartbeats 1000000 in
theorem rAll_any (A : Option Addr) (c : Nat) (l : List Int) (w : World) (hC : Kd.C (Kd.int .u64) w A l.length l) (h64 : In64 l) (hlen : l.length ≤ 1000000) :
    Calls Try.prog 26 #[.slice A l.length c] w fun r w' => ∃ v, r = .returned v ∧ Kd.R (Kd.int .u8) 5 w' w.heap.size (fun _ => True) v (encAll l) ∧ Below w.heap.size w w' := by
  have hm := hC.2.1
  have HC := Aside0.mk hC
  have H8 := Aside0.mk h64
  clear hC h64
  have HB := Aside0.mk (Below.refl w.heap.size w)
  go_enter Try.func26, Try.ntmps26
  go_wp2
  go_loopg [3, 4] l.length (fun kq v3 v4 w' => ∃ k : Nat, v4 = .int .i64 k ∧ k ≤ l.length ∧ Aside0 (kq = l.length - k) ∧ Aside0 (Kd.R (Kd.int .u8) 5 w' w.heap.size (fun _ => True) v3 (encAll (l.take k))) ∧ Aside0 (Below w.heap.size w w'))
  case atStart => exact ⟨0, rfl, Nat.zero_le _, ⟨by omega⟩, ⟨by simpa [encAll] using Kd.R_nil _ _ _ _ _⟩, HB⟩
  case round =>
    obtain ⟨k, rfl, hk, HK, HO, HB⟩ := hrel
    by_cases hlt : k < l.length
    · obtain ⟨ad, rfl, hc0⟩ := Kd.at_int HC.out (k : Int) (by omega) (by omega)
      simp only [Int.toNat_natCast] at hc0
      replace hc0 := (HB.out.cell (World.block_lt_of_cell? w _ hc0)).trans hc0
      have hx := H8.out _ (rd_mem l k hlt)
      have HL := Aside0.mk (encAll_len (H8.out.take k))
      have HL2 := Aside0.mk (encN_len10 _ hx.2)
      have HN := Aside0.mk (rBytes_any (rd l k) wr hx.1 hx.2)
      have HT := Aside0.mk (show encAll (l.take k) ++ encN (rd l k) = encAll (l.take (k + 1)) by rw [take_rd l k hlt, encAll_append, encAll_cons]; simp [encAll])
      clear hx
      go_wp2_with (first | (go_at_call 29; refine HN.out.mono ?_; rintro r w2 ⟨v, rfl, hR, hb⟩; obtain ⟨A2, c2, rfl, -, hC2⟩ := Kd.R_reads hR; have HR2 := Aside0.mk hC2; have HO1 := Aside0.mk (Kd.R_below HO.out hb); have HB1 := Aside0.mk (below_step HB.out hb); clear hR hb hC2) | (at_builtin; refine Kd.R_append_rows (Kd.int .u8) (w0 := w) w.heap.size rfl (.tmp 11) (.tmp 16) 29 5 (.int .u8 0) 1 rfl Try.underlying29 info5 rfl (by decide) (by omega) u3 (encAll (l.take k)) (encN (rd l k)) _ _ _ (fun _ => True) (fun _ => False) rfl rfl ?aO ?aR (fun _ _ h => h) (fun _ h => h.elim) (fun _ _ => trivial) ?aB ?aS ?aL ?_; (case aO => exact HO1.out); (case aR => exact HR2.out); (case aB => exact HB1.out); (case aS => exact HB1.out.size); (case aL => have := HL.out; have := HL2.out; rw [List.length_take] at *; omega); intro vq wq ho hb hg hat; rw [HT.out] at ho; have HO2 := Aside0.mk ho; have HB2 := Aside0.mk hb; clear ho hb hg hat))
      go_roundg (l.length - (k + 1))
      case measure => have := HK.out; omega
      case rel => exact ⟨k + 1, by go_num, by omega, ⟨rfl⟩, ⟨HO2.out⟩, ⟨HB2.out⟩⟩
    · have hk' : k = l.length := by omega
      have HT := Aside0.mk (show l.take k = l by rw [hk', List.take_length])
      clear hk'
      go_wp2
      go_ret
      exact ⟨_, rfl, by rw [← HT.out]; exact HO.out, HB.out⟩
end Go.Proofs.Ytjomlpogdemgpaa
