/- UTF-8 in plain Lean: scalars' bytes, their order, how bytes begin. -/
import Derived.Test.YtlllbaieidbcdaaWidA
namespace Go.Proofs.Ytlllbaieidbcdaa
/-- The bytes of a scalar. -/
def enc (r : Int) : List Int :=
  if r < 128 then [r]
  else if r < 2048 then [192 + r / 64, 128 + r % 64]
  else if r < 65536 then [224 + r / 4096, 128 + r / 64 % 64, 128 + r % 64]
  else [240 + r / 262144, 128 + r / 4096 % 64, 128 + r / 64 % 64, 128 + r % 64]
/-- Do bytes come ahead of others? -/
def ahead : List Int → List Int → Bool
  | [], [] => false
  | [], _ :: _ => true
  | _ :: _, [] => false
  | x :: a, y :: b => if x = y then ahead a b else decide (x < y)
theorem ahead_trans : ∀ a b c : List Int, ahead a b = false → ahead b c = false → ahead a c = false
  | [], [], c, _, h => h
  | [], _ :: _, _, h, _ => by simp [ahead] at h
  | _ :: _, _, [], _, _ => rfl
  | x :: a, [], z :: c, _, h => by simp [ahead] at h
  | x :: a, y :: b, z :: c, h1, h2 => by
    simp only [ahead] at h1 h2 ⊢
    by_cases e1 : x = y
    · by_cases e2 : y = z
      · rw [if_pos e1] at h1; rw [if_pos e2] at h2; rw [if_pos (e1.trans e2)]; exact ahead_trans a b c h1 h2
      · rw [if_neg e2] at h2; rw [if_neg (by omega)]; simp at h2 ⊢; omega
    · rw [if_neg e1] at h1
      by_cases e2 : y = z
      · rw [if_neg (by omega)]; simp at h1 ⊢; omega
      · rw [if_neg e2] at h2
        simp at h1 h2
        rw [if_neg (by omega)]; simp; omega
theorem ahead_self : ∀ a : List Int, ahead a a = false
  | [] => rfl
  | x :: a => by simp only [ahead, if_pos]; exact ahead_self a
theorem ahead_asymm : ∀ a b : List Int, ahead a b = true → ahead b a = false
  | [], [], h => by simp [ahead] at h
  | [], _ :: _, _ => rfl
  | _ :: _, [], h => by simp [ahead] at h
  | x :: a, y :: b, h => by
    simp only [ahead] at h ⊢
    by_cases e : x = y
    · rw [if_pos e] at h; rw [if_pos e.symm]; exact ahead_asymm a b h
    · rw [if_neg e] at h; rw [if_neg (Ne.symm e)]; simp at h ⊢; omega
theorem pre_between : ∀ p m x : List Int, ahead m p = false → ahead x m = false → p <+: x → p <+: m
  | [], _, _, _, _, _ => List.nil_prefix
  | q :: p, m, x, h1, h2, h => by
    obtain ⟨t, rfl⟩ := h
    cases m with
    | nil => simp [ahead] at h1
    | cons y m =>
      simp only [List.cons_append, ahead] at h1 h2
      by_cases e : y = q
      · rw [if_pos e] at h1; rw [if_pos e.symm] at h2
        rw [e, List.cons_prefix_cons]
        exact ⟨rfl, pre_between p m (p ++ t) h1 h2 (List.prefix_append _ _)⟩
      · rw [if_neg e] at h1; rw [if_neg (Ne.symm e)] at h2; simp at h1 h2; omega
theorem pre_ahead : ∀ p x : List Int, p <+: x → ahead x p = false
  | [], [], _ => rfl
  | [], _ :: _, _ => rfl
  | q :: p, x, h => by
    obtain ⟨t, rfl⟩ := h
    simp only [List.cons_append, ahead, if_pos]
    exact pre_ahead p (p ++ t) (List.prefix_append _ _)
theorem enc_lt (s t : Int) (h0 : 0 ≤ s) (h : s < t) (h1 : t ≤ 1114111) : ahead (enc s) (enc t) = true := by
  unfold enc
  by_cases a1 : s < 128
  · rw [if_pos a1]
    by_cases b1 : t < 128
    · rw [if_pos b1]; simp only [ahead]; rw [if_neg (by omega)]; simp; omega
    · rw [if_neg b1]
      split <;> (try split) <;> (simp only [ahead]; rw [if_neg (by omega)]; simp; omega)
  · rw [if_neg a1, if_neg (show ¬ t < 128 by omega)]
    by_cases a2 : s < 2048
    · rw [if_pos a2]
      by_cases b2 : t < 2048
      · rw [if_pos b2]; simp only [ahead]
        split
        · rw [if_neg (by omega)]; simp; omega
        · simp; omega
      · rw [if_neg b2]
        split <;> (simp only [ahead]; rw [if_neg (by omega)]; simp; omega)
    · rw [if_neg a2, if_neg (show ¬ t < 2048 by omega)]
      by_cases a3 : s < 65536
      · rw [if_pos a3]
        by_cases b3 : t < 65536
        · rw [if_pos b3]; simp only [ahead]
          split
          · split
            · rw [if_neg (by omega)]; simp; omega
            · simp; omega
          · simp; omega
        · rw [if_neg b3]
          simp only [ahead]; rw [if_neg (by omega)]; simp; omega
      · rw [if_neg a3, if_neg (show ¬ t < 65536 by omega)]
        simp only [ahead]
        split
        · split
          · split
            · rw [if_neg (by omega)]; simp; omega
            · simp; omega
          · simp; omega
        · simp; omega
theorem enc_le (s t : Int) (h0 : 0 ≤ s) (h : s ≤ t) (h1 : t ≤ 1114111) : ahead (enc t) (enc s) = false := by
  by_cases e : s = t
  · rw [e]; exact ahead_self _
  · exact ahead_asymm _ _ (enc_lt s t h0 (by omega) h1)
def cont (x : Int) : Bool := decide (128 ≤ x ∧ x ≤ 191)
/-- May the second byte stand behind the first one? -/
def two (a b : Int) : Bool :=
  if a < 194 then false else if a < 224 then cont b else if a = 224 then decide (160 ≤ b ∧ b ≤ 191) else if a = 237 then decide (128 ≤ b ∧ b ≤ 159) else if a < 240 then cont b
  else if a = 240 then decide (144 ≤ b ∧ b ≤ 191) else if a < 244 then cont b else if a = 244 then decide (128 ≤ b ∧ b ≤ 143) else false
/-- Does some scalar begin with these bytes? -/
def begZ : List Int → Bool
  | [] => true
  | [a] => decide (a < 128) || decide (194 ≤ a ∧ a ≤ 244)
  | [a, b] => two a b
  | [a, b, c] => decide (224 ≤ a) && two a b && cont c
  | [a, b, c, d] => decide (240 ≤ a) && two a b && cont c && cont d
  | _ => false
def In8u (l : List Int) : Prop := ∀ x ∈ l, 0 ≤ x ∧ x ≤ 255
theorem scalar_iff (r : Int) : scalarZ r = true ↔ (0 ≤ r ∧ r ≤ 55295) ∨ (57344 ≤ r ∧ r ≤ 1114111) := by
  unfold scalarZ; simp; omega
theorem enc_begins (s : Int) (hs : scalarZ s = true) (p : List Int) (h : p <+: enc s) : begZ p = true := by
  rw [scalar_iff] at hs
  unfold enc at h
  match p with
  | [] => rfl
  | [a] =>
    simp only [begZ]
    split at h
    · simp only [List.cons_prefix_cons] at h; simp; omega
    · (try split at h) <;> (try split at h) <;> simp only [List.cons_prefix_cons] at h <;> simp <;> omega
  | [a, b] =>
    simp only [begZ]
    split at h
    · simp [List.cons_prefix_cons] at h
    · (try split at h) <;> (try split at h) <;> simp only [List.cons_prefix_cons] at h <;> obtain ⟨rfl, rfl, -⟩ := h <;> unfold two cont <;> (repeat' split) <;> simp <;> omega
  | [a, b, c] =>
    simp only [begZ]
    split at h
    · simp [List.cons_prefix_cons] at h
    · split at h
      · simp [List.cons_prefix_cons] at h
      · (try split at h) <;> simp only [List.cons_prefix_cons] at h <;> obtain ⟨rfl, rfl, rfl, -⟩ := h <;> unfold two cont <;> (repeat' split) <;> simp <;> omega
  | [a, b, c, d] =>
    simp only [begZ]
    split at h
    · simp [List.cons_prefix_cons] at h
    · split at h
      · simp [List.cons_prefix_cons] at h
      · split at h
        · simp [List.cons_prefix_cons] at h
        · simp only [List.cons_prefix_cons] at h; obtain ⟨rfl, rfl, rfl, rfl, -⟩ := h; unfold two cont; (repeat' split) <;> simp <;> omega
  | a :: b :: c :: d :: e :: l =>
    exfalso
    split at h <;> (try split at h) <;> (try split at h) <;> simp [List.cons_prefix_cons] at h
end Go.Proofs.Ytlllbaieidbcdaa
