/- UTF-8 in plain Lean: what bytes are held to be. -/
import Derived.Test.YtlllbaieidbcdaaUtfB
namespace Go.Proofs.Ytlllbaieidbcdaa
/-- The scalar that just these bytes would be. -/
def scalV : List Int → Int
  | [a, b] => (a - 192) * 64 + b - 128
  | [a, b, c] => (a - 224) * 4096 + (b - 128) * 64 + c - 128
  | [a, b, c, d] => (a - 240) * 262144 + (b - 128) * 4096 + (c - 128) * 64 + d - 128
  | a :: _ => a
  | [] => 0
def scalB (l : List Int) : Bool := scalarZ (scalV l) && decide (enc (scalV l) = l)
theorem parseZ_pos (a : Int) (t : List Int) : (parseZ (a :: t)).2.2 = false → 1 ≤ (parseZ (a :: t)).2.1 ∧ (parseZ (a :: t)).2.1 ≤ (a :: t).length := by
  simp only [parseZ, List.length_cons]
  by_cases h1 : a < 128
  · rw [if_pos h1]; simp; omega
  · rw [if_neg h1]
    by_cases h2 : a < 194 ∨ 244 < a
    · rw [if_pos h2]; simp; omega
    · rw [if_neg h2]
      cases t with
      | nil => simp
      | cons b t =>
        simp only [List.length_cons]
        split
        · simp; omega
        · split
          · simp; omega
          · cases t with
            | nil => simp
            | cons c t =>
              simp only [List.length_cons]
              split
              · simp; omega
              · split
                · simp; omega
                · cases t with
                  | nil => simp
                  | cons d t =>
                    simp only [List.length_cons]
                    split <;> simp <;> omega
/-- All scalars of bytes; what is broken, told so. -/
def runesN : Nat → List Int → List Int
  | 0, _ => []
  | _, [] => []
  | n + 1, l => if (parseZ l).2.2 = true then [65533] else (parseZ l).1 :: runesN n (l.drop (parseZ l).2.1.toNat)
def runesZ (l : List Int) : List Int := runesN l.length l
theorem runesN_len : ∀ (n m : Nat) (l : List Int), l.length ≤ n → l.length ≤ m → runesN n l = runesN m l := by
  intro n
  induction n with
  | zero =>
    intro m l hn hm
    have : l = [] := List.eq_nil_of_length_eq_zero (by omega)
    subst this
    cases m <;> rfl
  | succ n ih =>
    intro m l hn hm
    match l, m with
    | [], 0 => rfl
    | [], m + 1 => rfl
    | a :: t, 0 => simp at hm
    | a :: t, m + 1 =>
      rw [runesN, runesN]
      cases h : (parseZ (a :: t)).2.2
      · have hp := parseZ_pos a t h
        rw [if_neg (by simp), if_neg (by simp)]
        congr 1
        refine ih m _ ?_ ?_ <;> (rw [List.length_drop]; simp at hn hm ⊢; omega)
      · rfl
      all_goals simp
theorem runesZ_nil : runesZ [] = [] := rfl
theorem runesZ_cons (a : Int) (t : List Int) : runesZ (a :: t) = if (parseZ (a :: t)).2.2 = true then [65533] else (parseZ (a :: t)).1 :: runesZ ((a :: t).drop (parseZ (a :: t)).2.1.toNat) := by
  unfold runesZ
  rw [show (a :: t).length = t.length + 1 from rfl, runesN]
  · cases h : (parseZ (a :: t)).2.2
    · have hp := parseZ_pos a t h
      rw [if_neg (by simp), if_neg (by simp)]
      congr 1
      exact runesN_len _ _ _ (by rw [List.length_drop]; simp; omega) (Nat.le_refl _)
    · rfl
  · simp
end Go.Proofs.Ytlllbaieidbcdaa
