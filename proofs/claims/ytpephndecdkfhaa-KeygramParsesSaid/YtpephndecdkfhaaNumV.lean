/- The reference's reader: a struct that is handed on. -/
import Derived.Test.YtpephndecdkfhaaNumT
namespace Go.Proofs.Ytpephndecdkfhaa
open Go.RowKit Go.Proofs.YtpephndecdkfhaaW.PrintWords Go.Proofs.YtpephndecdkfhaaW.PrintLast Go.Proofs.YtpephndecdkfhaaW.PrintMore
set_option linter.unusedVariables false
set_option linter.unusedSimpArgs false

/-- What holds in prolepsisref01.Read's loop. -/
def RReadAt (l : List Int) (i : Nat) (n u : Int) : Prop := i ≤ l.length ∧ i ≤ 9 ∧ 0 ≤ n ∧ n < 128 ^ i ∧ u = 128 ^ i ∧ rdNum i n (l.drop i) = rdNum 0 0 l
theorem RReadAt.start (l : List Int) : RReadAt l 0 0 1 := ⟨by omega, by omega, by omega, by decide, by decide, rfl⟩

set_option maxRecDepth 100000 in
set_option maxHeartbeats 1000000 in
theorem rRead_any (A : Option Addr) (c : Nat) (l : List Int) (w : World) (m k e : Int) (hC : Kd.C (Kd.int .u8) w A l.length l) (h8 : In8 l) (h : rdNum 0 0 l = (m, k, e)) :
    Calls Try.prog 24 #[.slice A l.length c] w fun r w' => r = .returned (.tuple #[.int .u64 m, .int .i64 k, .int .i64 e]) ∧ w' = w := by
  have hm := hC.2.1
  have HC := Aside0.mk hC
  have H8 := Aside0.mk h8
  have HH := Aside0.mk h
  clear hC h8 h
  go_enter Try.func24, Try.ntmps24
  go_wp2
  go_loop [5, 6, 7] (fun v5 v6 v7 => ∃ (n u : Int) (i : Nat), v5 = .int .u64 n ∧ v6 = .int .u64 u ∧ v7 = .int .i64 i ∧ Aside0 (RReadAt l i n u)) (fun _ _ v7 => l.length - (intOf v7).toNat)
  case atStart => exact ⟨0, 1, 0, rfl, rfl, rfl, ⟨RReadAt.start l⟩⟩
  case round =>
    obtain ⟨n, u, i, rfl, rfl, rfl, HI⟩ := hrel
    obtain ⟨hi, hi9, hn0, hn1, hu, hr⟩ := HI.out
    by_cases hlt : i < l.length
    · obtain ⟨ad, rfl, hc0⟩ := Kd.at_int HC.out (i : Int) (by omega) (by omega)
      simp only [Int.toNat_natCast] at hc0
      have hx : 0 ≤ rd l i ∧ rd l i < 256 := H8.out _ (rd_mem l i hlt)
      obtain ⟨hx0, hx1⟩ := hx
      have hs := hr
      rw [drop_rd l i hlt, rdNum_cons, HH.out] at hs
      have e1 : ((i : Int) == (l.length : Int)) = false := by simp; omega
      by_cases hbad : (i = 9 ∧ 1 < rd l i) ∨ (0 < i ∧ rd l i = 0)
      · rw [if_pos hbad] at hs
        simp only [Prod.mk.injEq] at hs
        obtain ⟨hs1, hs2, hs3⟩ := hs
        have HS := Aside0.mk (And.intro hs1 (And.intro hs2 hs3))
        clear hs1 hs2 hs3 hr hu hn1
        by_cases h9 : i = 9
        · have k1 : ((i : Int) == 9) = true := by simp; omega
          by_cases h1 : 1 < rd l i
          · have k2 : decide (1 < rd l i) = true := decide_eq_true h1
            clear hbad h9 h1 HI
            go_wp2
            go_ret3
            obtain ⟨a, b, c⟩ := HS.out
            subst a; subst b; subst c
            exact ⟨rfl, rfl⟩
          · have k2 : decide (1 < rd l i) = false := decide_eq_false h1
            have k3 : (rd l i == 0) = true := by simp; omega
            have k4 : decide (0 < i) = true := decide_eq_true (by omega)
            clear hbad h9 h1 HI
            go_wp2
            go_ret3
            obtain ⟨a, b, c⟩ := HS.out
            subst a; subst b; subst c
            exact ⟨rfl, rfl⟩
        · have k1 : ((i : Int) == 9) = false := by simp; omega
          have k3 : (rd l i == 0) = true := by simp; omega
          have k4 : decide (0 < i) = true := decide_eq_true (by omega)
          clear hbad h9 HI
          go_wp2
          go_ret3
          obtain ⟨a, b, c⟩ := HS.out
          subst a; subst b; subst c
          exact ⟨rfl, rfl⟩
      · rw [if_neg hbad] at hs
        have h1w : i = 9 → rd l i ≤ 1 := by omega
        have hfit : (rd l i % 128) * 128 ^ i < 18446744073709551616 := fits i _ (by omega) (by omega) hi9 (by omega)
        have hyz := Int.mul_nonneg (show 0 ≤ rd l i % 128 by omega) (Int.le_of_lt (p128_pos i))
        have hpow : (128 : Int) ^ (i + 1) = 128 ^ i * 128 := Int.pow_succ 128 i
        have hmul := Int.mul_le_mul_of_nonneg_right (show rd l i % 128 ≤ 127 by omega) (Int.le_of_lt (p128_pos i))
        have hpl := p128 hi9
        have h9' : (128 : Int) ^ 9 = 9223372036854775808 := by decide
        have hsum : IntKind.u64.wrap (n + IntKind.u64.wrap (rd l i % 128 * u)) = n + rd l i % 128 * 128 ^ i := by
          rw [hu, IntKind.wrap_u64, IntKind.wrap_u64, Int.emod_eq_of_lt hyz hfit, Int.emod_eq_of_lt (by omega)]
          by_cases h99 : i = 9
          · have := h1w h99
            have : rd l i % 128 * 128 ^ i ≤ 1 * 128 ^ i := Int.mul_le_mul_of_nonneg_right (by omega) (Int.le_of_lt (p128_pos i))
            omega
          · have : (128 : Int) ^ i ≤ 128 ^ 8 := p128 (by omega)
            have h8' : (128 : Int) ^ 8 = 72057594037927936 := by decide
            omega
        have HSU := Aside0.mk hsum
        have HNW := Aside0.mk (show 0 ≤ n + rd l i % 128 * 128 ^ i ∧ n + rd l i % 128 * 128 ^ i < 128 ^ (i + 1) by rw [hpow]; omega)
        have HU := Aside0.mk hu
        clear hsum hfit hyz hpow hmul hpl h9' hu hn1
        have hpos : i = 9 → ((rd l i == 0) = false ∧ decide (1 < rd l i) = false) := by intro h; simp; omega
        have hpos' : 0 < i → ((rd l i == 0) = false) := by intro h; simp; omega
        have hstep : (rd l i < 128 → m = n + rd l i % 128 * 128 ^ i ∧ k = i + 1 ∧ e = 0) ∧ (¬ rd l i < 128 → rdNum (i + 1) (n + rd l i % 128 * 128 ^ i) (l.drop (i + 1)) = rdNum 0 0 l) := by
          refine ⟨fun hsm => ?_, fun hsm => ?_⟩
          · rw [if_pos hsm] at hs
            simp only [Prod.mk.injEq] at hs
            rw [Int.emod_eq_of_lt hx0 hsm]
            exact ⟨hs.1.symm, hs.2.1.symm, hs.2.2.symm⟩
          · rw [if_neg hsm] at hs
            rw [show rd l i % 128 = rd l i - 128 by omega, hs, HH.out]
        have HST := Aside0.mk hstep
        clear hs hstep hr
        rcases (by omega : i = 9 ∨ (0 < i ∧ i < 9) ∨ i = 0) with h | ⟨h, h'⟩ | h
        · obtain ⟨k1, k2⟩ := hpos h
          have k3 : ((i : Int) == 9) = true := by simp; omega
          have k4 : decide (0 < i) = true := decide_eq_true (by omega)
          have hsm : rd l i < 128 := by have := h1w h; omega
          have k5 : decide (rd l i < 128) = true := decide_eq_true hsm
          have HQ := Aside0.mk (HST.out.1 hsm)
          clear hpos hpos' h h1w hbad HI
          go_wp2
          go_ret3
          obtain ⟨a, b, c⟩ := HQ.out
          rw [a, b, c]
          exact ⟨ret3 HSU.out, rfl⟩
        · have k2 := hpos' h
          have k3 : ((i : Int) == 9) = false := by simp; omega
          have k4 : decide (0 < i) = true := decide_eq_true (by omega)
          clear hpos hpos' h1w hbad HI
          by_cases hsm : rd l i < 128
          · have k5 : decide (rd l i < 128) = true := decide_eq_true hsm
            have HQ := Aside0.mk (HST.out.1 hsm)
            clear hsm
            go_wp2
            go_ret3
            obtain ⟨a, b, c⟩ := HQ.out
            rw [a, b, c]
            exact ⟨ret3 HSU.out, rfl⟩
          · have k5 : decide (rd l i < 128) = false := decide_eq_false hsm
            have HQ := Aside0.mk (HST.out.2 hsm)
            clear hsm
            go_wp2
            go_round
            case rel =>
              refine ⟨_, _, i + 1, rfl, rfl, by go_num, ⟨by omega, by omega, ?_, ?_, ?_, ?_⟩⟩
              · rw [HSU.out]; exact HNW.out.1
              · rw [HSU.out]; exact HNW.out.2
              · rw [HU.out, IntKind.wrap_u64]
                have := p128 (show i ≤ 8 by omega)
                have h8' : (128 : Int) ^ 8 = 72057594037927936 := by decide
                have hpow : (128 : Int) ^ (i + 1) = 128 ^ i * 128 := Int.pow_succ 128 i
                have := p128_pos i
                rw [hpow]; omega
              · rw [HSU.out]; exact HQ.out
            case measure => simp [intOf]; omega
        · have k3 : ((i : Int) == 9) = false := by simp; omega
          have k4 : decide (0 < i) = false := decide_eq_false (by omega)
          have h' : i < 9 := by omega
          clear hpos hpos' h h1w hbad HI
          by_cases hsm : rd l i < 128
          · have k5 : decide (rd l i < 128) = true := decide_eq_true hsm
            have HQ := Aside0.mk (HST.out.1 hsm)
            clear hsm
            go_wp2
            go_ret3
            obtain ⟨a, b, c⟩ := HQ.out
            rw [a, b, c]
            exact ⟨ret3 HSU.out, rfl⟩
          · have k5 : decide (rd l i < 128) = false := decide_eq_false hsm
            have HQ := Aside0.mk (HST.out.2 hsm)
            clear hsm
            go_wp2
            go_round
            case rel =>
              refine ⟨_, _, i + 1, rfl, rfl, by go_num, ⟨by omega, by omega, ?_, ?_, ?_, ?_⟩⟩
              · rw [HSU.out]; exact HNW.out.1
              · rw [HSU.out]; exact HNW.out.2
              · rw [HU.out, IntKind.wrap_u64]
                have := p128 (show i ≤ 8 by omega)
                have h8' : (128 : Int) ^ 8 = 72057594037927936 := by decide
                have hpow : (128 : Int) ^ (i + 1) = 128 ^ i * 128 := Int.pow_succ 128 i
                have := p128_pos i
                rw [hpow]; omega
              · rw [HSU.out]; exact HQ.out
            case measure => simp [intOf]; omega
    · have hil : i = l.length := by omega
      have hs := hr
      rw [hil, List.drop_length, HH.out] at hs
      simp only [rdNum, Prod.mk.injEq] at hs
      obtain ⟨hs1, hs2, hs3⟩ := hs
      have HS := Aside0.mk (And.intro hs1 (And.intro hs2 hs3))
      have k0 : decide (i < l.length) = false := decide_eq_false hlt
      clear hs1 hs2 hs3 hr hil hlt hi hu hn1 HI
      go_wp2
      go_ret3
      obtain ⟨a, b, c⟩ := HS.out
      subst a; subst b; subst c
      exact ⟨rfl, rfl⟩
end Go.Proofs.Ytpephndecdkfhaa
