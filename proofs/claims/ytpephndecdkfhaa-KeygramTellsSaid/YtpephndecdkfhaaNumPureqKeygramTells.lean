/- KeygramTells: what its proof leads to. No condition. -/
import Derived.WalkKit
namespace Go.Proofs.Ytpephndecdkfhaa
open Go

/-- All are bytes. -/
def In8 (l : List Int) : Prop := ∀ x ∈ l, 0 ≤ x ∧ x < 256
/-- All are 64-bit numbers. -/
def In64 (l : List Int) : Prop := ∀ x ∈ l, 0 ≤ x ∧ x < 18446744073709551616

/-- The number that bytes begin with, how many it has, the error; i: the place, n: what is told so far. -/
def rdNum : Nat → Int → List Int → Int × Int × Int
  | _, _, [] => (0, 0, 4)
  | i, n, x :: r => if (i = 9 ∧ 1 < x) ∨ (0 < i ∧ x = 0) then (0, 0, 3) else if x < 128 then (n + x * 128 ^ i, i + 1, 0) else rdNum (i + 1) (n + (x - 128) * 128 ^ i) r

/-- A number's bytes. -/
def encN (n : Int) : List Int :=
  if h : n < 128 then [n] else (128 + n % 128) :: encN (n / 128)
termination_by n.toNat
decreasing_by omega

theorem encN_small {n : Int} (h : n < 128) : encN n = [n] := by rw [encN]; simp [h]
theorem encN_big {n : Int} (h : ¬ n < 128) : encN n = (128 + n % 128) :: encN (n / 128) := by rw [encN]; simp [h]

def encAll (l : List Int) : List Int := l.flatMap encN

theorem In8.nil : In8 [] := by intro x h; cases h
theorem In8.cons {x : Int} {l : List Int} (h0 : 0 ≤ x) (h1 : x < 256) (h : In8 l) : In8 (x :: l) := by
  intro y hy
  rcases List.mem_cons.1 hy with rfl | hy
  · exact ⟨h0, h1⟩
  · exact h y hy
theorem In8.append {a b : List Int} (ha : In8 a) (hb : In8 b) : In8 (a ++ b) := by
  intro x hx
  rcases List.mem_append.1 hx with h | h
  · exact ha x h
  · exact hb x h
theorem In8.drop {l : List Int} (h : In8 l) (n : Nat) : In8 (l.drop n) := fun x hx => h x (List.mem_of_mem_drop hx)
theorem In8.take {l : List Int} (h : In8 l) (n : Nat) : In8 (l.take n) := fun x hx => h x (List.mem_of_mem_take hx)
theorem In64.take {l : List Int} (h : In64 l) (n : Nat) : In64 (l.take n) := fun x hx => h x (List.mem_of_mem_take hx)
theorem encN_in8 (n : Int) (h0 : 0 ≤ n) : In8 (encN n) := by
  by_cases h : n < 128
  · rw [encN_small h]; exact In8.cons h0 (by omega) In8.nil
  · rw [encN_big h]; exact In8.cons (by omega) (by omega) (encN_in8 (n / 128) (by omega))
termination_by n.toNat
decreasing_by omega
theorem encAll_append (a b : List Int) : encAll (a ++ b) = encAll a ++ encAll b := by simp [encAll]
theorem encAll_cons (x : Int) (b : List Int) : encAll (x :: b) = encN x ++ encAll b := by simp [encAll]

theorem encN_pos (n : Int) : 1 ≤ (encN n).length := by
  by_cases h : n < 128
  · rw [encN_small h]; simp
  · rw [encN_big h]; simp

/-- How long: at most as many as 7-bit groups. -/
theorem encN_len (n : Int) (k : Nat) (hk : 0 < k) (h : n < 128 ^ k) : (encN n).length ≤ k := by
  induction k generalizing n with
  | zero => omega
  | succ k ih =>
    by_cases hs : n < 128
    · rw [encN_small hs]; simp
    · rw [encN_big hs, List.length_cons]
      rcases Nat.eq_zero_or_pos k with rfl | hp
      · simp at h; omega
      · have := ih (n / 128) hp (by rw [Int.pow_succ] at h; omega)
        omega
theorem encN_len10 (n : Int) (h : n < 18446744073709551616) : (encN n).length ≤ 10 := by
  refine encN_len n 10 (by decide) ?_
  have h2 : (128 : Int) ^ 10 = 1180591620717411303424 := by decide
  omega
theorem p128 {i j : Nat} (h : i ≤ j) : (128 : Int) ^ i ≤ 128 ^ j := by
  have := Nat.pow_le_pow_right (n := 128) (by decide) h
  exact_mod_cast this
theorem encAll_len {l : List Int} (h : In64 l) : (encAll l).length ≤ 10 * l.length := by
  induction l with
  | nil => simp [encAll]
  | cons x r ih =>
    rw [encAll_cons, List.length_append, List.length_cons]
    have h1 := encN_len10 x (h x (by simp)).2
    have h2 := ih (fun y hy => h y (by simp [hy]))
    omega
theorem rdNum_cons (i : Nat) (n x : Int) (r : List Int) : rdNum i n (x :: r) = if (i = 9 ∧ 1 < x) ∨ (0 < i ∧ x = 0) then (0, 0, 3) else if x < 128 then (n + x * 128 ^ i, (i : Int) + 1, 0) else rdNum (i + 1) (n + (x - 128) * 128 ^ i) r := rfl

/-- What is told is read. -/
theorem rdNum_encN (m : Int) (r : List Int) (i : Nat) (n : Int) (h0 : 0 ≤ m) (hi : i ≤ 9) (hp : 0 < i → 0 < m) (hm : m * 128 ^ i < 18446744073709551616) :
    rdNum i n (encN m ++ r) = (n + m * 128 ^ i, (i : Int) + (encN m).length, 0) := by
  have h9 : i = 9 → m ≤ 1 := by
    rintro rfl
    have : (128 : Int) ^ 9 = 9223372036854775808 := by decide
    rw [this] at hm; omega
  by_cases hs : m < 128
  · rw [encN_small hs, List.singleton_append, rdNum_cons, if_neg (by omega), if_pos hs]; simp
  · have hlt9 : i < 9 := by
      rcases Nat.lt_or_ge i 9 with h | h
      · exact h
      · have := h9 (by omega); omega
    rw [encN_big hs, List.cons_append, rdNum_cons, if_neg (by omega), if_neg (by omega)]
    have hmm : (128 + m % 128 - 128) = m % 128 := by omega
    have hdm : m = 128 * (m / 128) + m % 128 := by omega
    have hpow : (128 : Int) ^ (i + 1) = 128 ^ i * 128 := Int.pow_succ 128 i
    have hp0 : (0 : Int) < 128 ^ i := Int.pow_pos (by decide)
    rw [hmm, rdNum_encN (m / 128) r (i + 1) _ (by omega) (by omega) (by omega) ?_]
    · rw [hpow]
      have e : n + m % 128 * 128 ^ i + m / 128 * (128 ^ i * 128) = n + m * 128 ^ i := by
        have : m * 128 ^ i = (128 * (m / 128) + m % 128) * 128 ^ i := by rw [← hdm]
        rw [this, Int.add_mul, Int.mul_comm 128 (m / 128), Int.mul_assoc (m / 128) 128, Int.mul_comm 128 ((128 : Int) ^ i)]
        omega
      rw [e, List.length_cons]
      simp only [Prod.mk.injEq, true_and, and_true]
      omega
    · rw [hpow, Int.mul_comm (128 ^ i) 128, ← Int.mul_assoc]
      have h1 : m / 128 * 128 ≤ m := by omega
      have := Int.mul_le_mul_of_nonneg_right h1 (Int.le_of_lt hp0)
      omega
termination_by m.toNat
decreasing_by omega

/-- What was read has just these bytes. -/
theorem rdNum_ok (l : List Int) : ∀ (i : Nat) (n : Int), In8 l → i ≤ 9 → 0 ≤ n → n < 128 ^ i → ∀ m k, rdNum i n l = (m, k, 0) →
    ∃ q : Int, m = n + q * 128 ^ i ∧ 0 ≤ q ∧ (0 < i → 0 < q) ∧ q * 128 ^ i < 18446744073709551616 ∧ (k = i + (encN q).length) ∧ l.take (encN q).length = encN q ∧ (encN q).length ≤ l.length := by
  induction l with
  | nil => intro i n _ _ _ _ m k h; simp [rdNum] at h
  | cons x r ih =>
    intro i n hb hi h0 hn m k h
    have hx := hb x (by simp)
    have hr : In8 r := fun y hy => hb y (by simp [hy])
    rw [rdNum_cons] at h
    split at h
    · simp at h
    · rename_i hbad
      have h9' : (128 : Int) ^ 9 = 9223372036854775808 := by decide
      have hpi : (128 : Int) ^ i ≤ 128 ^ 9 := p128 hi
      have hpp : (0 : Int) < 128 ^ i := Int.pow_pos (by decide)
      split at h
      · rename_i hlt
        simp only [Prod.mk.injEq] at h
        obtain ⟨rfl, rfl, _⟩ := h
        refine ⟨x, rfl, hx.1, by omega, ?_, by rw [encN_small hlt]; simp, by rw [encN_small hlt]; simp, by rw [encN_small hlt]; simp⟩
        rcases Nat.lt_or_ge i 9 with h8 | h8
        · have : (128 : Int) ^ i ≤ 128 ^ 8 := p128 (by omega)
          have h8' : (128 : Int) ^ 8 = 72057594037927936 := by decide
          have := Int.mul_le_mul (show x ≤ 127 by omega) (h8' ▸ this) (Int.le_of_lt hpp) (by decide)
          omega
        · obtain rfl : i = 9 := by omega
          rw [h9']; omega
      · rename_i hge
        have hi9 : i < 9 := by omega
        have hpow : (128 : Int) ^ (i + 1) = 128 ^ i * 128 := Int.pow_succ 128 i
        have hnew : n + (x - 128) * 128 ^ i < 128 ^ (i + 1) := by
          rw [hpow]
          have := Int.mul_le_mul_of_nonneg_right (show x - 128 ≤ 127 by omega) (Int.le_of_lt hpp)
          omega
        have hnew0 : 0 ≤ n + (x - 128) * 128 ^ i := by
          have := Int.mul_nonneg (show 0 ≤ x - 128 by omega) (Int.le_of_lt hpp)
          omega
        obtain ⟨q, rfl, hq0, hqp, hqb, rfl, htk, hlen⟩ := ih (i + 1) _ hr (by omega) hnew0 hnew m k h
        have hq1 := hqp (by omega)
        have hbig : ¬ (q * 128 + (x - 128)) < 128 := by omega
        have hdiv : (q * 128 + (x - 128)) / 128 = q := by omega
        have hmod : 128 + (q * 128 + (x - 128)) % 128 = x := by omega
        have henc : encN (q * 128 + (x - 128)) = x :: encN q := by rw [encN_big hbig, hdiv, hmod]
        have hmul : (q * 128 + (x - 128)) * 128 ^ i = q * (128 ^ i * 128) + (x - 128) * 128 ^ i := by
          rw [Int.add_mul, Int.mul_assoc, Int.mul_comm 128 ((128 : Int) ^ i)]
        refine ⟨q * 128 + (x - 128), ?_, by omega, by omega, ?_, ?_, ?_, ?_⟩
        · rw [hmul, hpow]; omega
        · rw [hpow] at hqb
          rcases Nat.lt_or_ge i 8 with h8 | h8
          · -- q * 128^(i+1) is a multiple of 128^(i+1), which divides 2^64 where i < 9
            have hdvd : ∃ t : Int, (18446744073709551616 : Int) = t * (128 ^ i * 128) := by
              refine ⟨2 ^ (64 - 7 * (i + 1)), ?_⟩
              rw [← hpow, show (128 : Int) = 2 ^ 7 by decide, ← Int.pow_mul, ← Int.pow_add, show 64 - 7 * (i + 1) + 7 * (i + 1) = 64 by omega]
              decide
            obtain ⟨t, ht⟩ := hdvd
            have hP : (0 : Int) < 128 ^ i * 128 := by omega
            have hqt : q < t := by
              rw [ht] at hqb
              exact Int.lt_of_mul_lt_mul_right hqb (Int.le_of_lt hP)
            have h1 : (q + 1) * (128 ^ i * 128) ≤ t * (128 ^ i * 128) := Int.mul_le_mul_of_nonneg_right (by omega) (Int.le_of_lt hP)
            rw [hmul]
            have h2 := Int.mul_le_mul_of_nonneg_right (show x - 128 ≤ 127 by omega) (Int.le_of_lt hpp)
            rw [Int.add_mul] at h1
            omega
          · obtain rfl : i = 8 := by omega
            have h8' : (128 : Int) ^ 8 = 72057594037927936 := by decide
            rw [h8'] at hqb ⊢
            omega
        · rw [henc, List.length_cons]; push_cast; omega
        · rw [henc, List.length_cons, List.take_succ_cons, htk]
        · rw [henc, List.length_cons, List.length_cons]; omega

/-- What is read is a number, of so many bytes. -/
theorem rdNum_bounds (l : List Int) (hb : In8 l) : 0 ≤ (rdNum 0 0 l).1 ∧ (rdNum 0 0 l).1 < 18446744073709551616 ∧ 0 ≤ (rdNum 0 0 l).2.1 ∧ (rdNum 0 0 l).2.1 ≤ l.length ∧ ((rdNum 0 0 l).2.2 = 0 ∨ (rdNum 0 0 l).2.2 = 3 ∧ (rdNum 0 0 l).1 = 0 ∧ (rdNum 0 0 l).2.1 = 0 ∨ (rdNum 0 0 l).2.2 = 4 ∧ (rdNum 0 0 l).1 = 0 ∧ (rdNum 0 0 l).2.1 = 0) := by
  have key : ∀ (l : List Int) (i : Nat) (n : Int), (rdNum i n l).2.2 = 0 ∨ (rdNum i n l) = (0, 0, 3) ∨ (rdNum i n l) = (0, 0, 4) := by
    intro l
    induction l with
    | nil => intro i n; exact .inr (.inr rfl)
    | cons x r ih =>
      intro i n
      rw [rdNum_cons]
      split
      · exact .inr (.inl rfl)
      · split
        · exact .inl rfl
        · exact ih _ _
  rcases key l 0 0 with h | h | h
  · obtain ⟨m, k, e, hr⟩ : ∃ m k e, rdNum 0 0 l = (m, k, e) := ⟨_, _, _, rfl⟩
    rw [hr] at h ⊢
    simp only at h ⊢
    subst h
    obtain ⟨q, hq, h0, _, hlt, hk, _, hle⟩ := rdNum_ok l 0 0 hb (by decide) (by decide) (by decide) m k hr
    simp at hq hlt hk
    subst hq hk
    exact ⟨h0, hlt, by omega, by omega, .inl rfl⟩
  · rw [h]; simp
  · rw [h]; simp

/-- A reader: what is left, how many were taken, the error. -/
structure RS where
  l : List Int
  t : Int
  e : Int
def RS.fine (s : RS) : Prop := In8 s.l ∧ 0 ≤ s.t ∧ s.t + s.l.length ≤ 4611686018427387904
def RS.number (s : RS) : RS × Int :=
  if s.e = 0 then (if (rdNum 0 0 s.l).2.2 = 0 then (⟨s.l.drop (rdNum 0 0 s.l).2.1.toNat, s.t + (rdNum 0 0 s.l).2.1, 0⟩, (rdNum 0 0 s.l).1) else (⟨s.l, s.t, (rdNum 0 0 s.l).2.2⟩, 0)) else (s, 0)
def RS.up (s : RS) (most err : Int) : RS × Int :=
  if s.e = 0 then (if s.number.1.e = 0 then (if 0 ≤ most ∧ s.number.2 ≤ most then s.number else (⟨s.l, s.t, err⟩, 0)) else (s.number.1, 0)) else (s, 0)
def RS.take (s : RS) (n : Int) : RS × List Int :=
  if s.e = 0 then (if 0 ≤ n ∧ n ≤ s.l.length then (⟨s.l.drop n.toNat, s.t + n, 0⟩, s.l.take n.toNat) else (⟨s.l, s.t, 4⟩, [])) else (s, [])
def RS.fail (s : RS) (e : Int) : RS := if s.e = 0 then ⟨s.l, s.t, e⟩ else s
def RS.done (s : RS) : Int := if s.e = 0 then (if s.l.length = 0 then 0 else 3) else s.e
theorem RS.number_fine {s : RS} (h : s.fine) : s.number.1.fine := by
  unfold RS.number
  obtain ⟨h8, h0, h1⟩ := h
  have hb := rdNum_bounds s.l h8
  split
  · split
    · refine ⟨h8.drop _, ?_, ?_⟩
      · show 0 ≤ s.t + (rdNum 0 0 s.l).2.1; omega
      · show s.t + (rdNum 0 0 s.l).2.1 + ((s.l.drop (rdNum 0 0 s.l).2.1.toNat).length : Int) ≤ _
        rw [List.length_drop]; omega
    · exact ⟨h8, h0, h1⟩
  · exact ⟨h8, h0, h1⟩
theorem RS.number_range {s : RS} (h : s.fine) : 0 ≤ s.number.2 ∧ s.number.2 < 18446744073709551616 := by
  unfold RS.number
  have hb := rdNum_bounds s.l h.1
  split
  · split
    · exact ⟨hb.1, hb.2.1⟩
    · exact ⟨by simp, by simp⟩
  · exact ⟨by simp, by simp⟩
theorem RS.up_fine {s : RS} (h : s.fine) (most err : Int) : (s.up most err).1.fine := by
  unfold RS.up
  split
  · split
    · split
      · exact RS.number_fine h
      · exact h
    · exact RS.number_fine h
  · exact h
theorem RS.up_range {s : RS} (h : s.fine) (most err : Int) : 0 ≤ (s.up most err).2 ∧ ((s.up most err).2 ≤ most ∨ (s.up most err).2 = 0) := by
  unfold RS.up
  have := RS.number_range h
  split
  · split
    · split
      · rename_i h2; exact ⟨this.1, .inl h2.2⟩
      · simp
    · simp
  · simp
theorem RS.take_fine {s : RS} (h : s.fine) (n : Int) : (s.take n).1.fine := by
  unfold RS.take
  obtain ⟨h8, h0, h1⟩ := h
  split
  · split
    · refine ⟨h8.drop _, ?_, ?_⟩
      · show 0 ≤ s.t + n; omega
      · show s.t + n + ((s.l.drop n.toNat).length : Int) ≤ _
        rw [List.length_drop]; omega
    · exact ⟨h8, h0, h1⟩
  · exact ⟨h8, h0, h1⟩
theorem RS.fail_fine {s : RS} (h : s.fine) (e : Int) : (s.fail e).fine := by
  unfold RS.fail
  split
  · exact h
  · exact h
end Go.Proofs.Ytpephndecdkfhaa
