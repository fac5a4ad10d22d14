/- UTF-8 in plain Lean: which bytes begin a scalar, and the first scalar of bytes. -/
import Derived.Test.YtlllbaieidbcdaaUtfA
namespace Go.Proofs.Ytlllbaieidbcdaa
theorem begins_enc (p : List Int) (h8 : In8u p) (h : begZ p = true) : ∃ s, scalarZ s = true ∧ p <+: enc s := by
  match p with
  | [] => exact ⟨0, by decide, List.nil_prefix⟩
  | [a] =>
    have ha := h8 a (by simp)
    simp only [begZ, Bool.or_eq_true, decide_eq_true_eq] at h
    by_cases h1 : a < 128
    · exact ⟨a, by rw [scalar_iff]; omega, by unfold enc; rw [if_pos h1]; exact List.prefix_refl _⟩
    · by_cases h2 : a < 224
      · refine ⟨(a - 192) * 64, by rw [scalar_iff]; omega, ?_⟩
        unfold enc; rw [if_neg (by omega), if_pos (by omega), List.cons_prefix_cons]; exact ⟨by omega, List.nil_prefix⟩
      · by_cases h3 : a < 240
        · by_cases h4 : a = 224
          · refine ⟨2048, by decide, ?_⟩
            subst h4; decide
          · refine ⟨(a - 224) * 4096, by rw [scalar_iff]; omega, ?_⟩
            unfold enc; rw [if_neg (by omega), if_neg (by omega), if_pos (by omega), List.cons_prefix_cons]; exact ⟨by omega, List.nil_prefix⟩
        · by_cases h4 : a = 240
          · refine ⟨65536, by decide, ?_⟩
            subst h4; decide
          · refine ⟨(a - 240) * 262144, by rw [scalar_iff]; omega, ?_⟩
            unfold enc; rw [if_neg (by omega), if_neg (by omega), if_neg (by omega), List.cons_prefix_cons]; exact ⟨by omega, List.nil_prefix⟩
  | [a, b] =>
    simp only [begZ] at h
    unfold two cont at h
    by_cases h2 : a < 224
    · have hb : 194 ≤ a ∧ 128 ≤ b ∧ b ≤ 191 := by
        split at h
        · simp at h
        · (try rw [if_pos h2] at h); simp at h; omega
      refine ⟨(a - 192) * 64 + (b - 128), by rw [scalar_iff]; omega, ?_⟩
      unfold enc; rw [if_neg (by omega), if_pos (by omega), List.cons_prefix_cons, List.cons_prefix_cons]; exact ⟨by omega, by omega, List.nil_prefix⟩
    · by_cases h3 : a < 240
      · have hb : 128 ≤ b ∧ b ≤ 191 ∧ (a = 224 → 160 ≤ b) ∧ (a = 237 → b ≤ 159) := by
          rw [if_neg (by omega), if_neg h2] at h
          split at h
          · simp at h; omega
          · split at h
            · simp at h; omega
            · (try rw [if_pos h3] at h); simp at h; omega
        refine ⟨(a - 224) * 4096 + (b - 128) * 64, by rw [scalar_iff]; omega, ?_⟩
        unfold enc; rw [if_neg (by omega), if_neg (by omega), if_pos (by omega), List.cons_prefix_cons, List.cons_prefix_cons]; exact ⟨by omega, by omega, List.nil_prefix⟩
      · have hb : a ≤ 244 ∧ 128 ≤ b ∧ b ≤ 191 ∧ (a = 240 → 144 ≤ b) ∧ (a = 244 → b ≤ 143) := by
          rw [if_neg (by omega), if_neg h2, if_neg (by omega), if_neg (by omega), if_neg h3] at h
          split at h
          · simp at h; omega
          · split at h
            · simp at h; omega
            · split at h
              · simp at h; omega
              · simp at h
        refine ⟨(a - 240) * 262144 + (b - 128) * 4096, by rw [scalar_iff]; omega, ?_⟩
        unfold enc; rw [if_neg (by omega), if_neg (by omega), if_neg (by omega), List.cons_prefix_cons, List.cons_prefix_cons]; exact ⟨by omega, by omega, List.nil_prefix⟩
  | [a, b, c] =>
    simp only [begZ, Bool.and_eq_true, decide_eq_true_eq] at h
    obtain ⟨⟨h1, h2⟩, h3⟩ := h
    simp only [cont, decide_eq_true_eq] at h3
    unfold two cont at h2
    by_cases h4 : a < 240
    · have hb : 128 ≤ b ∧ b ≤ 191 ∧ (a = 224 → 160 ≤ b) ∧ (a = 237 → b ≤ 159) := by
        rw [if_neg (by omega), if_neg (by omega)] at h2
        split at h2
        · simp at h2; omega
        · split at h2
          · simp at h2; omega
          · (try rw [if_pos h4] at h2); simp at h2; omega
      refine ⟨(a - 224) * 4096 + (b - 128) * 64 + (c - 128), by rw [scalar_iff]; omega, ?_⟩
      unfold enc; rw [if_neg (by omega), if_neg (by omega), if_pos (by omega), List.cons_prefix_cons, List.cons_prefix_cons, List.cons_prefix_cons]; exact ⟨by omega, by omega, by omega, List.nil_prefix⟩
    · have hb : a ≤ 244 ∧ 128 ≤ b ∧ b ≤ 191 ∧ (a = 240 → 144 ≤ b) ∧ (a = 244 → b ≤ 143) := by
        rw [if_neg (by omega), if_neg (by omega), if_neg (by omega), if_neg (by omega), if_neg h4] at h2
        split at h2
        · simp at h2; omega
        · split at h2
          · simp at h2; omega
          · split at h2
            · simp at h2; omega
            · simp at h2
      refine ⟨(a - 240) * 262144 + (b - 128) * 4096 + (c - 128) * 64, by rw [scalar_iff]; omega, ?_⟩
      unfold enc; rw [if_neg (by omega), if_neg (by omega), if_neg (by omega), List.cons_prefix_cons, List.cons_prefix_cons, List.cons_prefix_cons]; exact ⟨by omega, by omega, by omega, List.nil_prefix⟩
  | [a, b, c, d] =>
    simp only [begZ, Bool.and_eq_true, decide_eq_true_eq] at h
    obtain ⟨⟨⟨h1, h2⟩, h3⟩, h5⟩ := h
    simp only [cont, decide_eq_true_eq] at h3 h5
    unfold two cont at h2
    have hb : a ≤ 244 ∧ 128 ≤ b ∧ b ≤ 191 ∧ (a = 240 → 144 ≤ b) ∧ (a = 244 → b ≤ 143) := by
      rw [if_neg (by omega), if_neg (by omega), if_neg (by omega), if_neg (by omega), if_neg (by omega)] at h2
      split at h2
      · simp at h2; omega
      · split at h2
        · simp at h2; omega
        · split at h2
          · simp at h2; omega
          · simp at h2
    refine ⟨(a - 240) * 262144 + (b - 128) * 4096 + (c - 128) * 64 + (d - 128), by rw [scalar_iff]; omega, ?_⟩
    unfold enc; rw [if_neg (by omega), if_neg (by omega), if_neg (by omega), List.cons_prefix_cons, List.cons_prefix_cons, List.cons_prefix_cons, List.cons_prefix_cons]; exact ⟨by omega, by omega, by omega, by omega, List.nil_prefix⟩
  | a :: b :: c :: d :: e :: l => simp [begZ] at h
/-- The first scalar of bytes; how many it has; whether it is none yet. -/
def parseZ : List Int → Int × Int × Bool
  | [] => (0, 0, true)
  | a :: t =>
    if a < 128 then (a, 1, false)
    else if a < 194 ∨ 244 < a then (65533, 1, false)
    else match t with
      | [] => (0, 0, true)
      | b :: t =>
        if two a b = false then (65533, 1, false)
        else if a < 224 then ((a - 192) * 64 + (b - 128), 2, false)
        else match t with
          | [] => (0, 0, true)
          | c :: t =>
            if cont c = false then (65533, 2, false)
            else if a < 240 then ((a - 224) * 4096 + (b - 128) * 64 + (c - 128), 3, false)
            else match t with
              | [] => (0, 0, true)
              | d :: _ => if cont d = false then (65533, 3, false) else ((a - 240) * 262144 + (b - 128) * 4096 + (c - 128) * 64 + (d - 128), 4, false)
end Go.Proofs.Ytlllbaieidbcdaa
