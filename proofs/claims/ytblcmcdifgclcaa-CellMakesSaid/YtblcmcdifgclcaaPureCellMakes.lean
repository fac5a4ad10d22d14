/- CellMakes, the plain part: what is made of any rune, pen and cell is the document's. No condition but that the numbers are of their kinds. -/
import Derived.Test.YtblcmcdifgclcaaPCellMakesL
import Derived.OpenShut
namespace Go.Proofs.Ytblcmcdifgclcaa.Pure
open Go.RowKit Go.Proofs.Ytblcmcdifgclcaa.PCellMakes Go.Proofs.YtblcmcdifgclcaaW.PrintWords Go.Proofs.YtblcmcdifgclcaaW.PrintLast Go.Proofs.YtblcmcdifgclcaaW.PrintMore
theorem w64 {x : Int} (h0 : -9223372036854775808 ≤ x) (h1 : x < 9223372036854775808) : wrap64 x = x := by unfold wrap64; omega
theorem kp {d k : Nat} (h : d < k) : ∃ m, k = m + 1 := ⟨k - 1, by omega⟩
theorem drop_rd {xs : List Int} {i : Nat} (h : i < xs.length) : xs.drop i = rd xs (i : Int) :: xs.drop (i + 1) := by
  rw [List.drop_eq_getElem_cons h]
  simp [rd, List.getD_eq_getElem?_getD, h]
theorem rd_in {xs : List Int} {i : Nat} (h : i < xs.length) : rd xs (i : Int) ∈ xs := by
  simp [rd, List.getD_eq_getElem?_getD, h]
theorem cast1 (i : Nat) : ((i : Int) + 1) = ((i + 1 : Nat) : Int) := by omega
theorem wOf_bounds (r : Int) : -1 ≤ wOf r ∧ wOf r ≤ 2 := by unfold wOf; split <;> (try split) <;> (try split) <;> omega
theorem wPos_bounds (r : Int) : 0 ≤ wPos r ∧ wPos r ≤ 2 := by have := wOf_bounds r; unfold wPos; split <;> omega
theorem rScalar (r : Int) : prolepsisref02_Scalar.f r = some (scalarZ r) := by
  unfold prolepsisref02_Scalar.f scalarZ
  by_cases a : 0 ≤ r <;> by_cases b : r ≤ 1114111 <;> by_cases c : r < 55296 <;> by_cases d : 57343 < r <;> simp [*] <;> omega
def flat (p : List (Int × Int)) : List Int := p.flatMap fun x => [x.1, x.2]
theorem flat_len (p : List (Int × Int)) : (flat p).length = 2 * p.length := by
  induction p with
  | nil => rfl
  | cons x t ih => simp [flat] at *; omega
theorem flat_rd (p : List (Int × Int)) : ∀ j, j < p.length → rd (flat p) ((2 * j : Nat) : Int) = (p.getD j (0, 0)).1 ∧ rd (flat p) ((2 * j + 1 : Nat) : Int) = (p.getD j (0, 0)).2 := by
  induction p with
  | nil => intro j h; simp at h
  | cons x t ih =>
    intro j h
    match j with
    | 0 => exact ⟨rfl, rfl⟩
    | j + 1 =>
      have := ih j (by simpa using h)
      have e : ∀ i : Nat, rd (flat (x :: t)) ((i + 2 : Nat) : Int) = rd (flat t) (i : Int) := fun i => by unfold rd; rw [Int.toNat_natCast, Int.toNat_natCast]; rfl
      rw [show 2 * (j + 1) = 2 * j + 2 by omega, show 2 * j + 2 + 1 = (2 * j + 1) + 2 by omega, e, e, this.1, this.2]
      exact ⟨rfl, rfl⟩
theorem in_l (r : Int) (p : List (Int × Int)) (hp : p.length ≤ 1000) : ∀ (d j k : Nat), j + d = p.length → d < k → prolepsisref03_in.l0 k r (flat p) ((2 * j : Nat) : Int) = some (inL r (p.drop j)) := by
  intro d
  induction d with
  | zero =>
    intro j k hj hk
    obtain ⟨k, rfl⟩ := kp hk
    have hf := flat_len p
    rw [prolepsisref03_in.l0, w64 (by omega) (by omega), if_neg (by omega), List.drop_eq_nil_of_le (by omega)]
    rfl
  | succ d ih =>
    intro j k hj hk
    obtain ⟨k, rfl⟩ := kp hk
    have hf := flat_len p
    obtain ⟨e1, e2⟩ := flat_rd p j (by omega)
    have hd : p.drop j = p.getD j (0, 0) :: p.drop (j + 1) := by rw [List.drop_eq_getElem_cons (show j < p.length by omega)]; simp [List.getD_eq_getElem?_getD, show j < p.length by omega]
    have ih' := ih (j + 1) k (by omega) (by omega)
    have h1 : ((2 * j : Nat) : Int) + 1 = ((2 * j + 1 : Nat) : Int) := by omega
    have h2 : ((2 * j : Nat) : Int) + 2 = ((2 * (j + 1) : Nat) : Int) := by omega
    rw [prolepsisref03_in.l0, h1, h2, w64 (x := ((2 * j + 1 : Nat) : Int)) (by omega) (by omega), w64 (x := ((2 * (j + 1) : Nat) : Int)) (by omega) (by omega), e1, e2, ih', hd,
      if_pos (by omega), if_pos (show (0 : Int) ≤ ((2 * j : Nat) : Int) by omega), if_pos (by omega), if_pos (show (0 : Int) ≤ ((2 * j + 1 : Nat) : Int) by omega)]
    by_cases a : (p.getD j (0, 0)).1 ≤ r <;> by_cases b : r ≤ (p.getD j (0, 0)).2 <;> simp only [List.getD_eq_getElem?_getD] at a b <;> simp [inL, a, b]
theorem in_ok (r : Int) (p : List (Int × Int)) (l : List Int) (h : l = flat p) (k : Nat) (hk : p.length < k) (hp : p.length ≤ 1000) : prolepsisref03_in.f k r l = some (inL r p) := by
  subst h
  unfold prolepsisref03_in.f
  have := in_l r p hp p.length 0 k (by omega) hk
  simpa using this
theorem rOf (r : Int) (k : Nat) (hk : 20 ≤ k) : prolepsisref03_Of.f k r = some (wOf r) := by
  obtain ⟨k, rfl⟩ : ∃ m, k = m + 1 := ⟨k - 1, by omega⟩
  have j1 : prolepsisref03_Of.j0 (k + 1) r true = some (-1) := by rw [prolepsisref03_Of.j0, if_pos rfl]
  have j2 : prolepsisref03_Of.j0 (k + 1) r false = some (if inL r markL = true then 0 else if inL r wideL = true then 2 else 1) := by
    rw [prolepsisref03_Of.j0, if_neg (by simp), in_ok r markL [768, 879, 8203, 8207, 8400, 8447, 65024, 65039, 65056, 65071] rfl k (by simp [markL]; omega) (by simp [markL]), in_ok r wideL [4352, 4447, 11904, 12350, 12353, 42191, 44032, 55203, 63744, 64255, 65072, 65135, 65280, 65376, 65504, 65510, 127744, 128591, 129280, 129535, 131072, 262141] rfl k (by simp [wideL]; omega) (by simp [wideL])]
    simp only [Option.bind_some]
    split <;> (try split) <;> rfl
  unfold prolepsisref03_Of.f wOf
  by_cases a : r < 32
  · rw [if_pos a, if_pos (.inl a), j1]
  · rw [if_neg a, in_ok r [(127, 159)] [127, 159] rfl (k + 1) (by simp; omega) (by simp)]
    simp only [Option.bind_some]
    by_cases b : 127 ≤ r ∧ r ≤ 159
    · rw [if_pos (by simp [inL, b]), if_pos (.inr (.inl b)), j1]
    · rw [if_neg (by simp only [inL, List.any_cons, List.any_nil, Bool.or_false, Bool.and_eq_true, decide_eq_true_eq]; exact b), rScalar]
      simp only [Option.bind_some]
      cases hs : scalarZ r
      · rw [if_pos (.inr (.inr rfl))]; exact j1
      · rw [if_neg (by simp; omega)]; exact j2
theorem in32 {x : Int} (h : (Lit.int .i32 x).wf = true) : -2147483648 ≤ x ∧ x ≤ 2147483647 := by have := bounds_i32 h; omega
theorem mn_len {n : Nat} {c : Int} (hc : 0 ≤ c) : 0 ≤ mn (n : Int) c ∧ mn (n : Int) c ≤ n ∧ mn (n : Int) c ≤ c := by unfold mn; split <;> omega
theorem known_ok : prolepsislaw05_known.f = some true := by decide +kernel
def ofC (r p0 p1 p2 : Int) : Int × Int × Int × Int × Int × Int × Int × Bool := if wOf r < 1 then (0, 0, 0, 0, 0, 0, 0, false) else (r, 0, 0, wOf r % 256, p0, p1, p2, true)
theorem cOf_ok (r p0 p1 p2 : Int) : cell_Of.f r p0 p1 p2 = some (ofC r p0 p1 p2) := by
  unfold cell_Of.f ofC width_Of.f
  simp only [Option.bind_some]
  split <;> rfl
theorem rcOf_ok (r p0 p1 p2 : Int) : prolepsisref05_Of.f 100 r p0 p1 p2 = some (ofC r p0 p1 p2) := by
  have hb := wOf_bounds r
  unfold prolepsisref05_Of.f ofC
  rw [rOf r 100 (by omega)]
  simp only [Option.bind_some]
  by_cases h : wOf r < 1
  · rw [if_pos h, if_neg (by omega), if_neg (by omega)]
  · rw [if_neg h]
    by_cases h1 : wOf r = 1
    · rw [if_pos h1]
    · rw [if_neg h1, if_pos (by omega)]
theorem rMark_ok (c0 c1 c2 c3 c4 c5 c6 r : Int) : prolepsisref05_Mark.f 100 c0 c1 c2 c3 c4 c5 c6 r = some (markC c0 c1 c2 c3 c4 c5 c6 r) := by
  have j : ∀ b, prolepsisref05_Mark.j0 100 r b c0 c1 c2 c3 c4 c5 c6 = some (if b = true then (c0, c1, c2, c3, c4, c5, c6, false) else if c1 = 0 then (c0, r, c2, c3, c4, c5, c6, true) else if c2 = 0 then (c0, c1, r, c3, c4, c5, c6, true) else (c0, c1, c2, c3, c4, c5, c6, false)) := by
    intro b
    rw [prolepsisref05_Mark.j0]
    repeat' split
    all_goals rfl
  unfold prolepsisref05_Mark.f markC
  rw [rOf r 100 (by omega)]
  simp only [Option.bind_some, j]
  by_cases h : wOf r = 0 <;> by_cases h1 : c3 = 1 <;> by_cases h2 : c3 = 2 <;> simp [h, h1, h2]
theorem lOf_ok (x0 x1 x2 x3 x4 x5 x6 : Int) (h0 : -2147483648 ≤ x0 ∧ x0 ≤ 2147483647) (h1 : -2147483648 ≤ x1 ∧ x1 ≤ 2147483647) (h2 : -2147483648 ≤ x2 ∧ x2 ≤ 2147483647) : prolepsislaw05_Of.f x0 x1 x2 x3 x4 x5 x6 = some (x0, x1, x2, x3, x4, x5, x6) := by
  unfold prolepsislaw05_Of.f
  rw [w64 (by omega) (by omega), w64 (by omega) (by omega), w64 (by omega) (by omega)]
theorem CellMakes_true (c0 c1 c2 c3 c4 c5 c6 r p0 p1 p2 : Int) (h0 : -2147483648 ≤ c0 ∧ c0 ≤ 2147483647) (h1 : -2147483648 ≤ c1 ∧ c1 ≤ 2147483647) (h2 : -2147483648 ≤ c2 ∧ c2 ≤ 2147483647) (hr : -2147483648 ≤ r ∧ r ≤ 2147483647) :
    prolepsislaw05_CellMakes.f 100 c0 c1 c2 c3 c4 c5 c6 r p0 p1 p2 = some true := by
  unfold prolepsislaw05_CellMakes.f
  have ho : ∃ a0 a1 a2 a3 a4 a5 a6 a7, ofC r p0 p1 p2 = (a0, a1, a2, a3, a4, a5, a6, a7) ∧ (-2147483648 ≤ a0 ∧ a0 ≤ 2147483647) ∧ (-2147483648 ≤ a1 ∧ a1 ≤ 2147483647) ∧ (-2147483648 ≤ a2 ∧ a2 ≤ 2147483647) := by
    unfold ofC
    split
    · exact ⟨_, _, _, _, _, _, _, _, rfl, by omega, by omega, by omega⟩
    · exact ⟨_, _, _, _, _, _, _, _, rfl, by omega, by omega, by omega⟩
  have hm : ∃ a0 a1 a2 a3 a4 a5 a6 a7, markC c0 c1 c2 c3 c4 c5 c6 r = (a0, a1, a2, a3, a4, a5, a6, a7) ∧ (-2147483648 ≤ a0 ∧ a0 ≤ 2147483647) ∧ (-2147483648 ≤ a1 ∧ a1 ≤ 2147483647) ∧ (-2147483648 ≤ a2 ∧ a2 ≤ 2147483647) := by
    unfold markC
    repeat' split
    all_goals exact ⟨_, _, _, _, _, _, _, _, rfl, by omega, by omega, by omega⟩
  obtain ⟨a0, a1, a2, a3, a4, a5, a6, a7, ea, ha0, ha1, ha2⟩ := ho
  obtain ⟨b0, b1, b2, b3, b4, b5, b6, b7, eb, hb0, hb1, hb2⟩ := hm
  rw [w64 (x := r) (by omega) (by omega), cOf_ok, rcOf_ok, ea]
  simp only [Option.bind_some, cell_Mark.f, eb]
  rw [lOf_ok c0 c1 c2 c3 c4 c5 c6 h0 h1 h2]
  simp only [Option.bind_some]
  rw [rMark_ok, eb, known_ok]
  simp only [Option.bind_some, cell_With.f, cell_Blank.f, prolepsisref05_Blank.f, cell_Rest.f, prolepsisref05_Rest.f, cell_Alike.f]
  rw [lOf_ok a0 a1 a2 a3 a4 a5 a6 ha0 ha1 ha2]
  simp only [Option.bind_some]
  rw [lOf_ok b0 b1 b2 b3 b4 b5 b6 hb0 hb1 hb2]
  simp only [Option.bind_some]
  rw [lOf_ok 32 0 0 1 p0 p1 p2 (by omega) (by omega) (by omega), lOf_ok 0 0 0 0 c4 c5 c6 (by omega) (by omega) (by omega)]
  simp
end Go.Proofs.Ytblcmcdifgclcaa.Pure
