/- CellRight, the plain part: whether any cells are right, and alike, and a cell's runes, are the document's. No condition but that the numbers are of their kinds. -/
import Derived.Test.YtblcmcdifgclcaaPCellRightx7
import Derived.OpenShut
namespace Go.Proofs.Ytblcmcdifgclcaa.Pure
open Go.RowKit Go.Proofs.Ytblcmcdifgclcaa.PCellRight Go.Proofs.YtblcmcdifgclcaaW.PrintWords Go.Proofs.YtblcmcdifgclcaaW.PrintLast Go.Proofs.YtblcmcdifgclcaaW.PrintMore
theorem w64 {x : Int} (h0 : -9223372036854775808 ≤ x) (h1 : x < 9223372036854775808) : wrap64 x = x := by unfold wrap64; omega
theorem kp {d k : Nat} (h : d < k) : ∃ m, k = m + 1 := ⟨k - 1, by omega⟩
theorem drop_rd {xs : List Int} {i : Nat} (h : i < xs.length) : xs.drop i = rd xs (i : Int) :: xs.drop (i + 1) := by
  rw [List.drop_eq_getElem_cons h]
  simp [rd, List.getD_eq_getElem?_getD, h]
theorem rd_in {xs : List Int} {i : Nat} (h : i < xs.length) : rd xs (i : Int) ∈ xs := by
  simp [rd, List.getD_eq_getElem?_getD, h]
theorem cast1 (i : Nat) : ((i : Int) + 1) = ((i + 1 : Nat) : Int) := by omega
theorem wOf_bounds (r : Int) : -1 ≤ wOf r ∧ wOf r ≤ 2 := by unfold wOf; split <;> (try split) <;> (try split) <;> omega
theorem wPos_bounds (r : Int) : 0 ≤ wPos r ∧ wPos r ≤ 2 := by have := wOf_bounds r; unfold wPos; split <;> omega
theorem rScalar (r : Int) : prolepsisref02_Scalar.f r = some (scalarZ r) := by
  unfold prolepsisref02_Scalar.f scalarZ
  by_cases a : 0 ≤ r <;> by_cases b : r ≤ 1114111 <;> by_cases c : r < 55296 <;> by_cases d : 57343 < r <;> simp [*] <;> omega
def flat (p : List (Int × Int)) : List Int := p.flatMap fun x => [x.1, x.2]
theorem flat_len (p : List (Int × Int)) : (flat p).length = 2 * p.length := by
  induction p with
  | nil => rfl
  | cons x t ih => simp [flat] at *; omega
theorem flat_rd (p : List (Int × Int)) : ∀ j, j < p.length → rd (flat p) ((2 * j : Nat) : Int) = (p.getD j (0, 0)).1 ∧ rd (flat p) ((2 * j + 1 : Nat) : Int) = (p.getD j (0, 0)).2 := by
  induction p with
  | nil => intro j h; simp at h
  | cons x t ih =>
    intro j h
    match j with
    | 0 => exact ⟨rfl, rfl⟩
    | j + 1 =>
      have := ih j (by simpa using h)
      have e : ∀ i : Nat, rd (flat (x :: t)) ((i + 2 : Nat) : Int) = rd (flat t) (i : Int) := fun i => by unfold rd; rw [Int.toNat_natCast, Int.toNat_natCast]; rfl
      rw [show 2 * (j + 1) = 2 * j + 2 by omega, show 2 * j + 2 + 1 = (2 * j + 1) + 2 by omega, e, e, this.1, this.2]
      exact ⟨rfl, rfl⟩
theorem in_l (r : Int) (p : List (Int × Int)) (hp : p.length ≤ 1000) : ∀ (d j k : Nat), j + d = p.length → d < k → prolepsisref03_in.l0 k r (flat p) ((2 * j : Nat) : Int) = some (inL r (p.drop j)) := by
  intro d
  induction d with
  | zero =>
    intro j k hj hk
    obtain ⟨k, rfl⟩ := kp hk
    have hf := flat_len p
    rw [prolepsisref03_in.l0, w64 (by omega) (by omega), if_neg (by omega), List.drop_eq_nil_of_le (by omega)]
    rfl
  | succ d ih =>
    intro j k hj hk
    obtain ⟨k, rfl⟩ := kp hk
    have hf := flat_len p
    obtain ⟨e1, e2⟩ := flat_rd p j (by omega)
    have hd : p.drop j = p.getD j (0, 0) :: p.drop (j + 1) := by rw [List.drop_eq_getElem_cons (show j < p.length by omega)]; simp [List.getD_eq_getElem?_getD, show j < p.length by omega]
    have ih' := ih (j + 1) k (by omega) (by omega)
    have h1 : ((2 * j : Nat) : Int) + 1 = ((2 * j + 1 : Nat) : Int) := by omega
    have h2 : ((2 * j : Nat) : Int) + 2 = ((2 * (j + 1) : Nat) : Int) := by omega
    rw [prolepsisref03_in.l0, h1, h2, w64 (x := ((2 * j + 1 : Nat) : Int)) (by omega) (by omega), w64 (x := ((2 * (j + 1) : Nat) : Int)) (by omega) (by omega), e1, e2, ih', hd,
      if_pos (by omega), if_pos (show (0 : Int) ≤ ((2 * j : Nat) : Int) by omega), if_pos (by omega), if_pos (show (0 : Int) ≤ ((2 * j + 1 : Nat) : Int) by omega)]
    by_cases a : (p.getD j (0, 0)).1 ≤ r <;> by_cases b : r ≤ (p.getD j (0, 0)).2 <;> simp only [List.getD_eq_getElem?_getD] at a b <;> simp [inL, a, b]
theorem in_ok (r : Int) (p : List (Int × Int)) (l : List Int) (h : l = flat p) (k : Nat) (hk : p.length < k) (hp : p.length ≤ 1000) : prolepsisref03_in.f k r l = some (inL r p) := by
  subst h
  unfold prolepsisref03_in.f
  have := in_l r p hp p.length 0 k (by omega) hk
  simpa using this
theorem rOf (r : Int) (k : Nat) (hk : 20 ≤ k) : prolepsisref03_Of.f k r = some (wOf r) := by
  obtain ⟨k, rfl⟩ : ∃ m, k = m + 1 := ⟨k - 1, by omega⟩
  have j1 : prolepsisref03_Of.j0 (k + 1) r true = some (-1) := by rw [prolepsisref03_Of.j0, if_pos rfl]
  have j2 : prolepsisref03_Of.j0 (k + 1) r false = some (if inL r markL = true then 0 else if inL r wideL = true then 2 else 1) := by
    rw [prolepsisref03_Of.j0, if_neg (by simp), in_ok r markL [768, 879, 8203, 8207, 8400, 8447, 65024, 65039, 65056, 65071] rfl k (by simp [markL]; omega) (by simp [markL]), in_ok r wideL [4352, 4447, 11904, 12350, 12353, 42191, 44032, 55203, 63744, 64255, 65072, 65135, 65280, 65376, 65504, 65510, 127744, 128591, 129280, 129535, 131072, 262141] rfl k (by simp [wideL]; omega) (by simp [wideL])]
    simp only [Option.bind_some]
    split <;> (try split) <;> rfl
  unfold prolepsisref03_Of.f wOf
  by_cases a : r < 32
  · rw [if_pos a, if_pos (.inl a), j1]
  · rw [if_neg a, in_ok r [(127, 159)] [127, 159] rfl (k + 1) (by simp; omega) (by simp)]
    simp only [Option.bind_some]
    by_cases b : 127 ≤ r ∧ r ≤ 159
    · rw [if_pos (by simp [inL, b]), if_pos (.inr (.inl b)), j1]
    · rw [if_neg (by simp only [inL, List.any_cons, List.any_nil, Bool.or_false, Bool.and_eq_true, decide_eq_true_eq]; exact b), rScalar]
      simp only [Option.bind_some]
      cases hs : scalarZ r
      · rw [if_pos (.inr (.inr rfl))]; exact j1
      · rw [if_neg (by simp; omega)]; exact j2
theorem in32 {x : Int} (h : (Lit.int .i32 x).wf = true) : -2147483648 ≤ x ∧ x ≤ 2147483647 := by have := bounds_i32 h; omega
theorem mn_len {n : Nat} {c : Int} (hc : 0 ≤ c) : 0 ≤ mn (n : Int) c ∧ mn (n : Int) c ≤ n ∧ mn (n : Int) c ≤ c := by unfold mn; split <;> omega
theorem Same_l (a : List Int) (h32 : ∀ x ∈ a, -2147483648 ≤ x ∧ x ≤ 2147483647) (hl : a.length ≤ 1000000) : ∀ (d i k : Nat), i + d = a.length → d < k → prolepsislaw02_Same.l0 k a a (i : Int) = some true := by
  intro d
  induction d with
  | zero =>
    intro i k hi hk
    obtain ⟨k, rfl⟩ := kp hk
    rw [prolepsislaw02_Same.l0, if_neg (by omega)]
  | succ d ih =>
    intro i k hi hk
    obtain ⟨k, rfl⟩ := kp hk
    have hx := h32 _ (rd_in (show i < a.length by omega))
    rw [prolepsislaw02_Same.l0, if_pos (by omega), if_pos (by omega), if_pos (by omega), w64 (x := rd a (i : Int)) (by omega) (by omega), if_pos rfl, w64 (by omega) (by omega), cast1, ih (i + 1) k (by omega) (by omega)]
theorem Same_ok (a : List Int) (h32 : ∀ x ∈ a, -2147483648 ≤ x ∧ x ≤ 2147483647) (hl : a.length ≤ 1000000) (k : Nat) (hk : a.length < k) : prolepsislaw02_Same.f k a a = some true := by
  unfold prolepsislaw02_Same.f
  rw [if_pos rfl]
  exact Same_l a h32 hl a.length 0 k (by omega) hk
theorem known_ok : prolepsislaw05_known.f = some true := by decide +kernel
theorem lOf_ok (x0 x1 x2 x3 x4 x5 x6 : Int) (h0 : -2147483648 ≤ x0 ∧ x0 ≤ 2147483647) (h1 : -2147483648 ≤ x1 ∧ x1 ≤ 2147483647) (h2 : -2147483648 ≤ x2 ∧ x2 ≤ 2147483647) : prolepsislaw05_Of.f x0 x1 x2 x3 x4 x5 x6 = some (x0, x1, x2, x3, x4, x5, x6) := by
  unfold prolepsislaw05_Of.f
  rw [w64 (by omega) (by omega), w64 (by omega) (by omega), w64 (by omega) (by omega)]
theorem r4_ok (a b c : Int) : prolepsisref04_Right.f a b c = some (penR a b c) := by
  unfold prolepsisref04_Right.f penR
  by_cases h1 : a ≤ 31 <;> by_cases h2 : b ≤ 16 <;> by_cases h3 : c ≤ 16 <;> simp [h1, h2, h3] <;> omega
def restC (c0 c1 c2 c3 : Int) : Bool := if c3 = 0 then (c0 == 0 && (c1 == 0 && c2 == 0)) else ((wOf c0 == c3) && tailC c1 c2)
theorem rj_ok (b : Bool) (c0 c1 c2 c3 c4 c5 c6 : Int) (h8 : 0 ≤ c3 ∧ c3 ≤ 255) : prolepsisref05_Right.j0 100 b c0 c1 c2 c3 c4 c5 c6 = some (!b && restC c0 c1 c2 c3) := by
  rw [prolepsisref05_Right.j0, w64 (by omega) (by omega), rOf c0 99 (by omega), rOf c1 99 (by omega), rOf c2 99 (by omega)]
  simp only [Option.bind_some]
  unfold restC tailC
  cases b
  · by_cases h3 : c3 = 0
    · by_cases a0 : c0 = 0 <;> by_cases a1 : c1 = 0 <;> simp [h3, a0, a1]
    · by_cases a : wOf c0 = c3
      · by_cases a1 : c1 = 0 <;> by_cases a2 : c2 = 0 <;> by_cases b1 : wOf c1 = 0 <;> simp [h3, a, a1, a2, b1]
      · simp [h3, a]
  · simp
theorem rRight_ok (c0 c1 c2 c3 c4 c5 c6 : Int) (h8 : 0 ≤ c3 ∧ c3 ≤ 255) : prolepsisref05_Right.f 100 c0 c1 c2 c3 c4 c5 c6 = some (rightC c0 c1 c2 c3 c4 c5 c6) := by
  unfold prolepsisref05_Right.f rightC
  rw [r4_ok]
  simp only [Option.bind_some, rj_ok _ _ _ _ _ _ _ _ h8, restC]
  cases penR c4 c5 c6
  · simp
  · by_cases h3 : c3 = 0
    · simp [h3]
    · by_cases h2 : c3 ≤ 2
      · simp [h3, h2, show ¬ 2 < c3 by omega]
      · simp [h3, h2, show 2 < c3 by omega]
theorem runes_in (c0 c1 c2 c3 : Int) (x : Int) (hx : x ∈ runesC c0 c1 c2 c3) : x = c0 ∨ x = c1 ∨ x = c2 := by
  unfold runesC nzs nz at hx
  split at hx
  · by_cases h1 : c1 = 0 <;> by_cases h2 : c2 = 0 <;> simp [h1, h2] at hx <;> omega
  · simp at hx
theorem runes_len (c0 c1 c2 c3 : Int) : (runesC c0 c1 c2 c3).length ≤ 5 := by
  unfold runesC
  split
  · exact nzs_len c0 _ (by simp)
  · simp
theorem CellRight_true (c0 c1 c2 c3 c4 c5 c6 d0 d1 d2 d3 d4 d5 d6 : Int) (h0 : -2147483648 ≤ c0 ∧ c0 ≤ 2147483647) (h1 : -2147483648 ≤ c1 ∧ c1 ≤ 2147483647) (h2 : -2147483648 ≤ c2 ∧ c2 ≤ 2147483647) (h3 : 0 ≤ c3 ∧ c3 ≤ 255)
    (g0 : -2147483648 ≤ d0 ∧ d0 ≤ 2147483647) (g1 : -2147483648 ≤ d1 ∧ d1 ≤ 2147483647) (g2 : -2147483648 ≤ d2 ∧ d2 ≤ 2147483647) : prolepsislaw05_CellRight.f 100 c0 c1 c2 c3 c4 c5 c6 d0 d1 d2 d3 d4 d5 d6 = some true := by
  have hrun := runes_len c0 c1 c2 c3
  have hs : prolepsislaw02_Same.f 100 (runesC c0 c1 c2 c3) (runesC c0 c1 c2 c3) = some true := Same_ok _ (fun x hx => by rcases runes_in c0 c1 c2 c3 x hx with rfl | rfl | rfl <;> omega) (by omega) 100 (by omega)
  unfold prolepsislaw05_CellRight.f
  rw [known_ok, show cell_Right.f c0 c1 c2 c3 c4 c5 c6 = some (rightC c0 c1 c2 c3 c4 c5 c6) by unfold cell_Right.f; rw [if_pos h3], lOf_ok c0 c1 c2 c3 c4 c5 c6 h0 h1 h2, lOf_ok d0 d1 d2 d3 d4 d5 d6 g0 g1 g2]
  simp only [Option.bind_some]
  rw [if_pos trivial, rRight_ok c0 c1 c2 c3 c4 c5 c6 h3]
  simp only [Option.bind_some]
  rw [if_pos (by simp)]
  have ha : ∃ b, cell_Alike.f c0 c1 c2 c3 c4 c5 c6 d0 d1 d2 d3 d4 d5 d6 = some b ∧ prolepsisref05_Alike.f c0 c1 c2 c3 c4 c5 c6 d0 d1 d2 d3 d4 d5 d6 = some b := by
    refine ⟨c0 == d0 && ((c1 == d1 && c2 == d2) && c3 == d3), ?_, ?_⟩
    · unfold cell_Alike.f cell_With.f
      simp
    · unfold prolepsisref05_Alike.f
      by_cases a : c0 = d0 <;> by_cases b : c1 = d1 <;> by_cases c : c2 = d2 <;> simp [a, b, c]
  obtain ⟨b, e1, e2⟩ := ha
  rw [e1, e2]
  simp only [Option.bind_some]
  rw [if_pos (by simp), show cell_Runes.f c0 c1 c2 c3 c4 c5 c6 = some (runesC c0 c1 c2 c3) from rfl, show prolepsisref05_Runes.f c0 c1 c2 c3 c4 c5 c6 = some (runesC c0 c1 c2 c3) from rfl]
  simp only [Option.bind_some]
  rw [hs]
  rfl
end Go.Proofs.Ytblcmcdifgclcaa.Pure
