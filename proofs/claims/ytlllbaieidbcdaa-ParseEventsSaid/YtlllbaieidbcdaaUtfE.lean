/- UTF-8 in plain Lean: what the range over a text tells of each scalar. -/
import Derived.Test.YtlllbaieidbcdaaUtfC
import Derived.Test.YtlllbaieidbcdaaWMore
namespace Go.Proofs.Ytlllbaieidbcdaa
open Go.RowKit Go.Proofs.YtlllbaieidbcdaaW.PrintWords Go.Proofs.YtlllbaieidbcdaaW.PrintLast Go.Proofs.YtlllbaieidbcdaaW.PrintMore
/-- The model's decoding, at the begin of a list. -/
def decL (L : List Int) : Nat × Nat :=
  let at' (k : Nat) : Nat := (L.getD k 0).toNat
  let cont (k : Nat) : Bool := k < L.length && at' k / 64 == 2
  let b0 := at' 0
  if b0 < 0x80 then (b0, 1)
  else if b0 / 32 == 6 && cont 1 then
    let c := (b0 % 32) * 64 + at' 1 % 64
    if c ≥ 0x80 then (c, 2) else (Utf8.runeError, 1)
  else if b0 / 16 == 14 && cont 1 && cont 2 then
    let c := (b0 % 16) * 4096 + (at' 1 % 64) * 64 + at' 2 % 64
    if c ≥ 0x800 && Utf8.valid c then (c, 3) else (Utf8.runeError, 1)
  else if b0 / 8 == 30 && cont 1 && cont 2 && cont 3 then
    let c := (b0 % 8) * 262144 + (at' 1 % 64) * 4096 + (at' 2 % 64) * 64 + at' 3 % 64
    if c ≥ 0x10000 && Utf8.valid c then (c, 4) else (Utf8.runeError, 1)
  else (Utf8.runeError, 1)
theorem str_size (l : List Int) : (strOfNums l).size = l.length := by simp [strOfNums, ByteArray.size]
theorem str_get (l : List Int) (h8 : In8u l) (i : Nat) : ((strOfNums l).get! i).toNat = (l.getD i 0).toNat := by
  show (((l.map fun n => UInt8.ofNat n.toNat).toArray)[i]!).toNat = _
  by_cases h : i < l.length
  · have hx := h8 _ (List.getElem_mem h)
    simp [h, List.getD_eq_getElem?_getD]
    omega
  · simp [h, List.getD_eq_getElem?_getD]
    rfl
theorem dec_eq (l : List Int) (h8 : In8u l) (pos : Nat) (hp : pos ≤ l.length) : Utf8.decode (strOfNums l) pos = decL (l.drop pos) := by
  have e : ∀ k, (l.drop pos).getD k 0 = l.getD (pos + k) 0 := fun k => by simp [List.getD_eq_getElem?_getD]
  have el : ∀ k, decide (pos + k < (strOfNums l).size) = decide (k < (l.drop pos).length) := fun k => by rw [str_size, List.length_drop]; congr 1; simp; omega
  unfold Utf8.decode decL
  simp only [str_get l h8, e, el]
theorem lead_two {a b : Int} (h : 192 ≤ a ∧ a < 224) (hb : 128 ≤ b ∧ b ≤ 191) (hc : 128 ≤ (a - 192) * 64 + (b - 128)) : two a b = true := by
  unfold two cont; rw [if_neg (by omega), if_pos (by omega)]; simp; omega
theorem lead_three {a b c : Int} (h : 224 ≤ a ∧ a < 240) (hb : 128 ≤ b ∧ b ≤ 191) (hc : 128 ≤ c ∧ c ≤ 191) (hv : 2048 ≤ (a - 224) * 4096 + (b - 128) * 64 + (c - 128)) (hs : ¬ (55296 ≤ (a - 224) * 4096 + (b - 128) * 64 + (c - 128) ∧ (a - 224) * 4096 + (b - 128) * 64 + (c - 128) ≤ 57343)) : two a b = true := by
  unfold two cont; rw [if_neg (by omega), if_neg (by omega)]
  by_cases h1 : a = 224
  · rw [if_pos h1]; simp; omega
  · rw [if_neg h1]
    by_cases h2 : a = 237
    · rw [if_pos h2]; simp; omega
    · rw [if_neg h2, if_pos (by omega)]; simp; omega
theorem lead_four {a b c d : Int} (h : 240 ≤ a ∧ a < 248) (hb : 128 ≤ b ∧ b ≤ 191) (hc : 128 ≤ c ∧ c ≤ 191) (hd : 128 ≤ d ∧ d ≤ 191) (hv : 65536 ≤ (a - 240) * 262144 + (b - 128) * 4096 + (c - 128) * 64 + (d - 128)) (hs : (a - 240) * 262144 + (b - 128) * 4096 + (c - 128) * 64 + (d - 128) ≤ 1114111) : two a b = true ∧ a ≤ 244 := by
  refine ⟨?_, by omega⟩
  unfold two cont; rw [if_neg (by omega), if_neg (by omega), if_neg (by omega), if_neg (by omega), if_neg (by omega)]
  by_cases h1 : a = 240
  · rw [if_pos h1]; simp; omega
  · rw [if_neg h1]
    by_cases h2 : a < 244
    · rw [if_pos h2]; simp; omega
    · rw [if_neg h2, if_pos (by omega)]; simp; omega
theorem cont_iff (x : Int) : cont x = true ↔ 128 ≤ x ∧ x ≤ 191 := by unfold cont; simp
set_option maxRecDepth 100000 in
/-- The model's decoding, told by the bytes. -/
theorem decL_cases (L : List Int) (h8 : In8u L) (r n : Nat) (e : decL L = (r, n)) (hne : L ≠ []) (hr : r ≠ 65533) :
    ∃ a t, L = a :: t ∧ ((a < 128 ∧ r = a.toNat ∧ n = 1) ∨
      (∃ b t', t = b :: t' ∧ 192 ≤ a ∧ a < 224 ∧ 128 ≤ b ∧ b ≤ 191 ∧ (r : Int) = (a - 192) * 64 + (b - 128) ∧ 128 ≤ r ∧ n = 2) ∨
      (∃ b c t', t = b :: c :: t' ∧ 224 ≤ a ∧ a < 240 ∧ (128 ≤ b ∧ b ≤ 191) ∧ (128 ≤ c ∧ c ≤ 191) ∧ (r : Int) = (a - 224) * 4096 + (b - 128) * 64 + (c - 128) ∧ 2048 ≤ r ∧ Utf8.valid r = true ∧ n = 3) ∨
      (∃ b c d t', t = b :: c :: d :: t' ∧ 240 ≤ a ∧ a < 248 ∧ (128 ≤ b ∧ b ≤ 191) ∧ (128 ≤ c ∧ c ≤ 191) ∧ (128 ≤ d ∧ d ≤ 191) ∧ (r : Int) = (a - 240) * 262144 + (b - 128) * 4096 + (c - 128) * 64 + (d - 128) ∧ 65536 ≤ r ∧ Utf8.valid r = true ∧ n = 4)) := by
  match L, hne with
  | a :: t, _ =>
    refine ⟨a, t, rfl, ?_⟩
    have ha := h8 a (by simp)
    have g0 : (a :: t).getD 0 0 = a := rfl
    unfold decL at e
    simp only [g0] at e
    split at e
    · injection e with e1 e2
      left; exact ⟨by omega, e1.symm, e2.symm⟩
    · right
      split at e
      · rename_i h1 h2
        simp only [Bool.and_eq_true, beq_iff_eq, decide_eq_true_eq] at h2
        match t with
        | [] => simp at h2
        | b :: t' =>
          have hb := h8 b (by simp)
          have g1 : (a :: b :: t').getD 1 0 = b := rfl
          simp only [g1] at e h2
          split at e
          · injection e with e1 e2
            left; exact ⟨b, t', rfl, by omega, by omega, by omega, by omega, by omega, by omega, e2.symm⟩
          · injection e with e1 e2; exact absurd e1.symm hr
      · right
        split at e
        · rename_i h1 h2 h3
          simp only [Bool.and_eq_true, beq_iff_eq, decide_eq_true_eq] at h3
          rcases t with _ | ⟨b, _ | ⟨c, t'⟩⟩
          · simp at h3
          · simp at h3
          ·
            have hb := h8 b (by simp)
            have hc := h8 c (by simp)
            have g1 : (a :: b :: c :: t').getD 1 0 = b := rfl
            have g2 : (a :: b :: c :: t').getD 2 0 = c := rfl
            simp only [g1, g2] at e h3
            generalize hX : a.toNat % 16 * 4096 + b.toNat % 64 * 64 + c.toNat % 64 = X at e
            split at e
            · rename_i h4
              simp only [Bool.and_eq_true, decide_eq_true_eq] at h4
              injection e with e1 e2
              left; exact ⟨b, c, t', rfl, by omega, by omega, by omega, by omega, by omega, by omega, by rw [← e1]; exact h4.2, e2.symm⟩
            · injection e with e1 e2; exact absurd e1.symm hr
        · right
          split at e
          · rename_i h1 h2 h3 h5
            simp only [Bool.and_eq_true, beq_iff_eq, decide_eq_true_eq] at h5
            rcases t with _ | ⟨b, _ | ⟨c, _ | ⟨d, t'⟩⟩⟩
            · simp at h5
            · simp at h5
            · simp at h5
            ·
              have hb := h8 b (by simp)
              have hc := h8 c (by simp)
              have hd := h8 d (by simp)
              have g1 : (a :: b :: c :: d :: t').getD 1 0 = b := rfl
              have g2 : (a :: b :: c :: d :: t').getD 2 0 = c := rfl
              have g3 : (a :: b :: c :: d :: t').getD 3 0 = d := rfl
              simp only [g1, g2, g3] at e h5
              generalize hX : a.toNat % 8 * 262144 + b.toNat % 64 * 4096 + c.toNat % 64 * 64 + d.toNat % 64 = X at e
              split at e
              · rename_i h4
                simp only [Bool.and_eq_true, decide_eq_true_eq] at h4
                injection e with e1 e2
                exact ⟨b, c, d, t', rfl, by omega, by omega, by omega, by omega, by omega, by omega, by omega, by rw [← e1]; exact h4.2, e2.symm⟩
              · injection e with e1 e2; exact absurd e1.symm hr
          · injection e with e1 e2; exact absurd e1.symm hr
theorem dec_parse (L : List Int) (h8 : In8u L) (r n : Nat) (e : decL L = (r, n)) (hne : L ≠ []) (hr : r ≠ 65533) : parseZ L = ((r : Int), (n : Int), false) := by
  obtain ⟨a, t, rfl, h⟩ := decL_cases L h8 r n e hne hr
  have ha := h8 a (by simp)
  rcases h with ⟨h1, h2, rfl⟩ | ⟨b, t', rfl, h1, h2, h3, h4, h5, h6, rfl⟩ | ⟨b, c, t', rfl, h1, h2, h3, h4, h5, h6, h7, rfl⟩ | ⟨b, c, d, t', rfl, h1, h2, h3, h4, h45, h5, h6, h7, rfl⟩
  · simp only [parseZ]; rw [if_pos h1, h2, Int.toNat_of_nonneg ha.1]; rfl
  · have h2' := lead_two ⟨h1, h2⟩ ⟨h3, h4⟩ (by omega)
    simp only [parseZ]; rw [if_neg (by omega), if_neg (by omega), h2', if_neg (by simp), if_pos h2, h5]; rfl
  · have hv : ¬ (55296 ≤ (r : Int) ∧ (r : Int) ≤ 57343) := by unfold Utf8.valid at h7; simp at h7; omega
    have h2' := lead_three ⟨h1, h2⟩ h3 h4 (by omega) (by omega)
    simp only [parseZ]; rw [if_neg (by omega), if_neg (by omega), h2', if_neg (by simp), if_neg (by omega)]
    (try dsimp only)
    rw [(cont_iff c).2 h4, if_neg (by simp), if_pos h2, h5]; rfl
  · have hv : (r : Int) ≤ 1114111 := by unfold Utf8.valid at h7; simp at h7; omega
    obtain ⟨h2', h244⟩ := lead_four ⟨h1, h2⟩ h3 h4 h45 (by omega) (by omega)
    simp only [parseZ]; rw [if_neg (by omega), if_neg (by omega), h2', if_neg (by simp), if_neg (by omega)]
    (try dsimp only)
    rw [(cont_iff c).2 h4, if_neg (by simp), if_neg (by omega)]
    (try dsimp only)
    rw [(cont_iff d).2 h45, if_neg (by simp), h5]; rfl
end Go.Proofs.Ytlllbaieidbcdaa
