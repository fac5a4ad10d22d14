/- KeygramTells: what its proof leads to. No condition. -/
import Derived.Test.YtpephndecdkfhaaNumAqKeygramTells
import Derived.Test.YtpephndecdkfhaaNumPureqKeygramTells
import Derived.Test.YtpephndecdkfhaaGotosqKeygramTells
namespace Go.Proofs.Ytpephndecdkfhaa
open Go.RowKit Go.Proofs.YtpephndecdkfhaaW.PrintWords Go.Proofs.YtpephndecdkfhaaW.PrintLast Go.Proofs.YtpephndecdkfhaaW.PrintMore
set_option linter.unusedVariables false
set_option linter.unusedSimpArgs false

theorem and127 (x : Int) (h0 : 0 ≤ x) (h1 : x < 256) : bits .and .u64 x 127 = x % 128 := by
  rw [u64_and x 127 h0 (by omega) (by decide) (by decide)]
  have : (127 : Int).toNat = 127 := rfl
  rw [this, nat_mask7]
  omega
theorem and128 (x : Int) (h0 : 0 ≤ x) (h1 : x < 256) : bits .and .u64 x 128 = if x < 128 then 0 else 128 := by
  rw [u64_and x 128 h0 (by omega) (by decide) (by decide)]
  have h2 : (128 : Int).toNat = 2 ^ 7 := rfl
  rw [h2, nat_bit]
  split <;> omega
theorem p128_pos (i : Nat) : (0 : Int) < 128 ^ i := Int.pow_pos (by decide)
theorem pow27 (i : Nat) : (2 : Int) ^ (7 * i) = 128 ^ i := by rw [Int.pow_mul]; rfl
theorem or_sum (n y : Int) (i : Nat) (h0 : 0 ≤ n) (hn : n < 128 ^ i) (hy : 0 ≤ y) (hb : y * 128 ^ i < 18446744073709551616) (hi : i ≤ 9) :
    bits .or .u64 n (IntKind.u64.wrap (y * 2 ^ (7 * i))) = n + y * 128 ^ i := by
  have hpp : (0 : Int) < 128 ^ i := Int.pow_pos (by decide)
  have h0' := Int.mul_nonneg hy (Int.le_of_lt hpp)
  have h9' : (128 : Int) ^ 9 = 9223372036854775808 := by decide
  have hle := p128 hi
  rw [pow27, IntKind.wrap_u64, Int.emod_eq_of_lt h0' hb, u64_or n _ h0 (by omega) h0' hb, Nat.or_comm, nat_join (7 * i)]
  · omega
  · have : (y * 128 ^ i).toNat = y.toNat * 2 ^ (7 * i) := by
      have e1 : ((y * 128 ^ i).toNat : Int) = ((y.toNat * 2 ^ (7 * i) : Nat) : Int) := by
        rw [Int.toNat_of_nonneg h0']
        push_cast
        rw [pow27, Int.toNat_of_nonneg hy]
      exact_mod_cast e1
    rw [this]
    exact Nat.mul_mod_left _ _
  · have : (n.toNat : Int) < ((2 ^ (7 * i) : Nat) : Int) := by
      push_cast
      rw [pow27]
      omega
    exact_mod_cast this
theorem fits (i : Nat) (y : Int) (h0 : 0 ≤ y) (h1 : y < 128) (hi : i ≤ 9) (h9 : i = 9 → y ≤ 1) : y * 128 ^ i < 18446744073709551616 := by
  have hpp : (0 : Int) < 128 ^ i := Int.pow_pos (by decide)
  rcases Nat.lt_or_ge i 9 with h8 | h8
  · have : (128 : Int) ^ i ≤ 128 ^ 8 := p128 (by omega)
    have h8' : (128 : Int) ^ 8 = 72057594037927936 := by decide
    have := Int.mul_le_mul (show y ≤ 127 by omega) (h8' ▸ this) (Int.le_of_lt hpp) (by decide)
    omega
  · obtain rfl : i = 9 := by omega
    have h9' : (128 : Int) ^ 9 = 9223372036854775808 := by decide
    have := h9 rfl
    rw [h9']; omega
theorem drop_rd (l : List Int) (i : Nat) (h : i < l.length) : l.drop i = rd l i :: l.drop (i + 1) := by
  rw [List.drop_eq_getElem_cons h]
  simp [rd, List.getD_eq_getElem?_getD, List.getElem?_eq_getElem h]

def R3 (t : Int × Int × Int) : Ending := .returned (.tuple #[.int .u64 t.1, .int .i64 t.2.1, .int .i64 t.2.2])
theorem R3_of {t : Int × Int × Int} {a b c : Int} (h : t = (a, b, c)) : Ending.returned (.tuple #[.int .u64 a, .int .i64 b, .int .i64 c]) = R3 t := by rw [h]; rfl

/-- What holds at the head of num.Read's loop. -/
def ReadAt (l : List Int) (lb i : Nat) (n : Int) : Prop :=
  (lb = 0 → i ≤ l.length ∧ i ≤ 9 ∧ 0 ≤ n ∧ n < 128 ^ i ∧ rdNum i n (l.drop i) = rdNum 0 0 l) ∧ (lb = 1 → rdNum 0 0 l = (0, 0, 3)) ∧ lb < 2
theorem ReadAt.start (l : List Int) : ReadAt l 0 0 0 := ⟨fun _ => ⟨by omega, by omega, by omega, by decide, rfl⟩, by omega, by omega⟩

set_option maxRecDepth 100000 in
set_option maxHeartbeats 1000000 in
theorem Read_any (A : Option Addr) (c : Nat) (l : List Int) (w : World) (hC : Kd.C (Kd.int .u8) w A l.length l) (h8 : In8 l) :
    Calls Try.prog 21 #[.slice A l.length c] w fun r w' => r = R3 (rdNum 0 0 l) ∧ w' = w := by
  have hm := hC.2.1
  have HC := Aside0.mk hC
  have H8 := Aside0.mk h8
  clear hC h8
  go_enter Try.func21, Try.ntmps21
  go_wp2
  refine wp_scope_gotos' (fun lb a' w' => w' = w ∧ ∃ (n : Int) (i : Nat), (∃ u1 u2 u3 u4 u7 u8 u9 u10 u11 u12 u13 u14 u15 u16 u17 u18 u19 u20 u21 u22 u23 u24 u25 u26 u27 u28 u29 u30 u31 u32 u33 u34 u35 u36 u37 u38 u39 u40 u41 u42 u43 u44 : Value, a' = { tmps := #[.slice A l.length c, u1, u2, u3, u4, .int .u64 n, .int .i64 i, u7, u8, u9, u10, u11, u12, u13, u14, u15, u16, u17, u18, u19, u20, u21, u22, u23, u24, u25, u26, u27, u28, u29, u30, u31, u32, u33, u34, u35, u36, u37, u38, u39, u40, u41, u42, u43, u44], defers := [] }) ∧ ReadAt l lb i n) (fun lb a' _ => (l.length - (intOf (a'.tmps.getD 6 undef)).toNat) * 2 + (1 - lb)) ?_ ?_
  · rintro lb a' w' ⟨rfl, n, i, ⟨u1, u2, u3, u4, u7, u8, u9, u10, u11, u12, u13, u14, u15, u16, u17, u18, u19, u20, u21, u22, u23, u24, u25, u26, u27, u28, u29, u30, u31, u32, u33, u34, u35, u36, u37, u38, u39, u40, u41, u42, u43, u44, rfl⟩, hrel⟩
    obtain ⟨hr0, hr1, hl⟩ := hrel
    match lb, hl with
    | 1, _ =>
      have hr := Aside0.mk (hr1 rfl)
      clear hr0 hr1
      refine ⟨_, rfl, ?_⟩
      simp only [unskip]
      go_wp2
      try simp only [jumps_ret]
      go_ret3
      exact ⟨R3_of hr.out, rfl⟩
    | 0, _ =>
      obtain ⟨hi, hi9, hn0, hn1, hr⟩ := hr0 rfl
      have HR := Aside0.mk hr
      have HN := Aside0.mk hn1
      clear hr0 hr1 hr hn1
      refine ⟨_, rfl, ?_⟩
      simp only [unskip]
      by_cases hlt : i < l.length
      · have e1 : ((i : Int) == (l.length : Int)) = false := by simp; omega
        obtain ⟨ad, rfl, hc0⟩ := Kd.at_int HC.out (i : Int) (by omega) (by omega)
        simp only [Int.toNat_natCast] at hc0
        have hx : 0 ≤ rd l i ∧ rd l i < 256 := H8.out _ (by rw [rd, Int.toNat_natCast, List.getD_eq_getElem?_getD, List.getElem?_eq_getElem hlt]; simp)
        obtain ⟨hx0, hx1⟩ := hx
        have hs := HR.out
        rw [drop_rd l i hlt, rdNum_cons] at hs
        have h99 : i = 9 ∨ i < 9 := by omega
        have h00 : i = 0 ∨ 0 < i := by omega
        by_cases hbad : (i = 9 ∧ 1 < rd l i) ∨ (0 < i ∧ rd l i = 0)
        · rw [if_pos hbad] at hs
          have HS := Aside0.mk hs.symm
          clear hs
          rcases hbad with ⟨h9, h1⟩ | ⟨hp, h0⟩
          · have k1 : ((i : Int) == 9) = true := by simp; omega
            have k2 : decide (1 < rd l i) = true := by simp; omega
            clear h99 h00 h9 h1
            go_wp2
            go_step3
            (refine ⟨⟨rfl, n, i, ⟨_, _, _, _, _, _, _, _, _, _, _, _, _, _, _, _, _, _, _, _, _, _, _, _, _, _, _, _, _, _, _, _, _, _, _, _, _, _, _, _, _, _, rfl⟩, ⟨by omega, fun _ => HS.out, by omega⟩⟩, ?_⟩)
            simp only [intOf, Array.getD]; simp; try omega
          · have k1 : decide ((0 : Int) < i) = true := by simp; omega
            have k2 : (rd l i == 0) = true := by simp; omega
            have k3 : decide (1 < rd l i) = false := by simp; omega
            rcases h99 with h99 | h99
            · have k4 : ((i : Int) == 9) = true := by simp; omega
              clear h0 h00 h99
              go_wp2
              go_step3
              (refine ⟨⟨rfl, n, i, ⟨_, _, _, _, _, _, _, _, _, _, _, _, _, _, _, _, _, _, _, _, _, _, _, _, _, _, _, _, _, _, _, _, _, _, _, _, _, _, _, _, _, _, rfl⟩, ⟨by omega, fun _ => HS.out, by omega⟩⟩, ?_⟩)
              simp only [intOf, Array.getD]; simp; try omega
            · have k4 : ((i : Int) == 9) = false := by simp; omega
              clear h0 h00 h99
              go_wp2
              go_step3
              (refine ⟨⟨rfl, n, i, ⟨_, _, _, _, _, _, _, _, _, _, _, _, _, _, _, _, _, _, _, _, _, _, _, _, _, _, _, _, _, _, _, _, _, _, _, _, _, _, _, _, _, _, rfl⟩, ⟨by omega, fun _ => HS.out, by omega⟩⟩, ?_⟩)
              simp only [intOf, Array.getD]; simp; try omega
        · rw [if_neg hbad] at hs
          have h1w : i = 9 → rd l i ≤ 1 := by omega
          have hfit : (rd l i % 128) * 128 ^ i < 18446744073709551616 := fits i _ (by omega) (by omega) hi9 (by omega)
          have hor := Aside0.mk (or_sum n (rd l i % 128) i hn0 HN.out (by omega) hfit hi9)
          have ha7 := Aside0.mk (and127 _ hx0 hx1)
          have hnew0 : 0 ≤ n + rd l i % 128 * 128 ^ i := by
            have := Int.mul_nonneg (show 0 ≤ rd l i % 128 by omega) (Int.le_of_lt (p128_pos i))
            omega
          have hnew1 : n + rd l i % 128 * 128 ^ i < 128 ^ (i + 1) := by
            have hpow : (128 : Int) ^ (i + 1) = 128 ^ i * 128 := Int.pow_succ 128 i
            have := Int.mul_le_mul_of_nonneg_right (show rd l i % 128 ≤ 127 by omega) (Int.le_of_lt (p128_pos i))
            have := HN.out
            rw [hpow]; omega
          have HW := Aside0.mk (And.intro hnew0 hnew1)
          clear hnew0 hnew1 hfit
          have hpos : i = 9 → ((rd l i == 0) = false ∧ decide (1 < rd l i) = false) := by intro h; simp; omega
          have hpos' : 0 < i → ((rd l i == 0) = false) := by intro h; simp; omega
          have HD := Aside0.mk (rfl : l = l)
          rcases (by omega : i = 9 ∨ (0 < i ∧ i < 9) ∨ i = 0) with h | ⟨h, h'⟩ | h
          · obtain ⟨k1, k2⟩ := hpos h
            have k3 : ((i : Int) == 9) = true := by simp; omega
            have k4 : decide (0 < i) = true := by simp; omega
            have hsmall : rd l i < 128 := by omega
            clear hpos hpos' h h99 h00 h1w hbad
            rw [if_pos hsmall] at hs
            have k5 : (bits .and .u64 (rd l i) 128 != 0) = false := by rw [and128 _ hx0 hx1, if_pos hsmall]; rfl
            have HS := Aside0.mk hs.symm
            clear hs
            go_wp2
            try simp only [jumps_ret]
            go_ret3
            exact ⟨R3_of (HS.out.trans (by rw [ha7.out, hor.out, Int.emod_eq_of_lt hx0 hsmall])), rfl⟩
          · have k2 := hpos' h
            have k3 : ((i : Int) == 9) = false := by simp; omega
            have k4 : decide (0 < i) = true := by simp; omega
            clear hpos hpos' h99 h00 h1w hbad
            by_cases hsmall : rd l i < 128
            · rw [if_pos hsmall] at hs
              have k5 : (bits .and .u64 (rd l i) 128 != 0) = false := by rw [and128 _ hx0 hx1, if_pos hsmall]; rfl
              have HS := Aside0.mk hs.symm
              clear hs
              go_wp2
              try simp only [jumps_ret]
              go_ret3
              exact ⟨R3_of (HS.out.trans (by rw [ha7.out, hor.out, Int.emod_eq_of_lt hx0 hsmall])), rfl⟩
            · rw [if_neg hsmall] at hs
              have k5 : (bits .and .u64 (rd l i) 128 != 0) = true := by rw [and128 _ hx0 hx1, if_neg hsmall]; rfl
              have HS := Aside0.mk hs
              have hsub : rd l i % 128 = rd l i - 128 := by omega
              have HX := Aside0.mk hsub
              clear hs hsub
              go_wp2
              go_step3
              refine ⟨⟨rfl, _, i + 1, ⟨_, _, _, _, _, _, _, _, _, _, _, _, _, _, _, _, _, _, _, _, _, _, _, _, _, _, _, _, _, _, _, _, _, _, _, _, _, _, _, _, _, _, rfl⟩, ⟨fun _ => ⟨by omega, by omega, ?_, ?_, ?_⟩, by omega, by omega⟩⟩, ?_⟩
              · rw [ha7.out, hor.out]; exact HW.out.1
              · rw [ha7.out, hor.out]; exact HW.out.2
              · rw [ha7.out, hor.out, HX.out]; exact HS.out
              · simp only [intOf, Array.getD]; simp; try omega
          · have k3 : ((i : Int) == 9) = false := by simp; omega
            have k4 : decide (0 < i) = false := by simp; omega
            have h' : i < 9 := by omega
            clear hpos hpos' h99 h00 h1w hbad h
            by_cases hsmall : rd l i < 128
            · rw [if_pos hsmall] at hs
              have k5 : (bits .and .u64 (rd l i) 128 != 0) = false := by rw [and128 _ hx0 hx1, if_pos hsmall]; rfl
              have HS := Aside0.mk hs.symm
              clear hs
              go_wp2
              try simp only [jumps_ret]
              go_ret3
              exact ⟨R3_of (HS.out.trans (by rw [ha7.out, hor.out, Int.emod_eq_of_lt hx0 hsmall])), rfl⟩
            · rw [if_neg hsmall] at hs
              have k5 : (bits .and .u64 (rd l i) 128 != 0) = true := by rw [and128 _ hx0 hx1, if_neg hsmall]; rfl
              have HS := Aside0.mk hs
              have hsub : rd l i % 128 = rd l i - 128 := by omega
              have HX := Aside0.mk hsub
              clear hs hsub
              go_wp2
              go_step3
              refine ⟨⟨rfl, _, i + 1, ⟨_, _, _, _, _, _, _, _, _, _, _, _, _, _, _, _, _, _, _, _, _, _, _, _, _, _, _, _, _, _, _, _, _, _, _, _, _, _, _, _, _, _, rfl⟩, ⟨fun _ => ⟨by omega, by omega, ?_, ?_, ?_⟩, by omega, by omega⟩⟩, ?_⟩
              · rw [ha7.out, hor.out]; exact HW.out.1
              · rw [ha7.out, hor.out]; exact HW.out.2
              · rw [ha7.out, hor.out, HX.out]; exact HS.out
              · simp only [intOf, Array.getD]; simp; try omega
      · have hil : i = l.length := by omega
        have e1 : ((i : Int) == (l.length : Int)) = true := by simp; omega
        have hs := HR.out
        rw [hil, List.drop_length] at hs
        have HS := Aside0.mk hs.symm
        clear hs hil hlt hi
        go_wp2
        try simp only [jumps_ret]
        go_ret3
        exact ⟨R3_of HS.out, rfl⟩
  · intro hp
    go_wp2
    go_step3
    obtain ⟨rest, hf, hw⟩ := hp 0 _ _ ⟨rfl, 0, 0, ⟨_, _, _, _, _, _, _, _, _, _, _, _, _, _, _, _, _, _, _, _, _, _, _, _, _, _, _, _, _, _, _, _, _, _, _, _, _, _, _, _, _, _, rfl⟩, ReadAt.start l⟩
    obtain rfl : _ = rest := Option.some.inj hf
    simp only [unskip] at hw
    rename_i hK
    exact hK _ _ hw

theorem Read_of (A : Option Addr) (c : Nat) (l : List Int) (w : World) (m k e : Int) (hC : Kd.C (Kd.int .u8) w A l.length l) (h8 : In8 l) (h : rdNum 0 0 l = (m, k, e)) :
    Calls Try.prog 21 #[.slice A l.length c] w fun r w' => r = .returned (.tuple #[.int .u64 m, .int .i64 k, .int .i64 e]) ∧ w' = w :=
  (Read_any A c l w hC h8).mono fun r w' ⟨hr, hw⟩ => ⟨hr.trans (R3_of h).symm, hw⟩
end Go.Proofs.Ytpephndecdkfhaa
