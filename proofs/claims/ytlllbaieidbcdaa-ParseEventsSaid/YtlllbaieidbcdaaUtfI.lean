/- UTF-8 in plain Lean: what a parse tells of the bytes, and the bytes of scalars parsed. -/
import Derived.Test.YtlllbaieidbcdaaUtfC
import Derived.Test.YtlllbaieidbcdaaUtfE
namespace Go.Proofs.Ytlllbaieidbcdaa
open Go.RowKit
theorem two_bounds {a b : Int} (h : two a b = true) : 194 ≤ a ∧ a ≤ 244 ∧ 128 ≤ b ∧ b ≤ 191 ∧ (a = 224 → 160 ≤ b) ∧ (a = 237 → b ≤ 159) ∧ (a = 240 → 144 ≤ b) ∧ (a = 244 → b ≤ 143) := by
  unfold two cont at h
  split at h
  · cases h
  split at h
  · simp at h; omega
  split at h
  · simp at h; omega
  split at h
  · simp at h; omega
  split at h
  · simp at h; omega
  split at h
  · simp at h; omega
  split at h
  · simp at h; omega
  split at h
  · simp at h; omega
  · cases h
theorem two_of {a b : Int} (h : 194 ≤ a ∧ a ≤ 244 ∧ 128 ≤ b ∧ b ≤ 191) (h1 : a = 224 → 160 ≤ b) (h2 : a = 237 → b ≤ 159) (h3 : a = 240 → 144 ≤ b) (h4 : a = 244 → b ≤ 143) : two a b = true := by
  unfold two cont
  rw [if_neg (by omega)]
  by_cases c1 : a < 224
  · rw [if_pos c1]; simp; omega
  rw [if_neg c1]
  by_cases c2 : a = 224
  · rw [if_pos c2]; simp; omega
  rw [if_neg c2]
  by_cases c3 : a = 237
  · rw [if_pos c3]; simp; omega
  rw [if_neg c3]
  by_cases c4 : a < 240
  · rw [if_pos c4]; simp; omega
  rw [if_neg c4]
  by_cases c5 : a = 240
  · rw [if_pos c5]; simp; omega
  rw [if_neg c5]
  by_cases c6 : a < 244
  · rw [if_pos c6]; simp; omega
  rw [if_neg c6, if_pos (by omega)]; simp; omega
theorem enc1 {r : Int} (h : r < 128) : enc r = [r] := by unfold enc; rw [if_pos h]
theorem enc2 {r : Int} (h0 : 128 ≤ r) (h : r < 2048) : enc r = [192 + r / 64, 128 + r % 64] := by unfold enc; rw [if_neg (by omega), if_pos h]
theorem enc3 {r : Int} (h0 : 2048 ≤ r) (h : r < 65536) : enc r = [224 + r / 4096, 128 + r / 64 % 64, 128 + r % 64] := by unfold enc; rw [if_neg (by omega), if_neg (by omega), if_pos h]
theorem enc4 {r : Int} (h0 : 65536 ≤ r) : enc r = [240 + r / 262144, 128 + r / 4096 % 64, 128 + r / 64 % 64, 128 + r % 64] := by unfold enc; rw [if_neg (by omega), if_neg (by omega), if_neg (by omega)]
theorem enc_two {a b : Int} (h : two a b = true) (ha : a < 224) : enc ((a - 192) * 64 + b - 128) = [a, b] := by
  have := two_bounds h
  rw [enc2 (by omega) (by omega)]
  simp only [List.cons.injEq, and_true]; omega
theorem enc_three {a b c : Int} (h : two a b = true) (ha : 224 ≤ a ∧ a < 240) (hc : cont c = true) : enc ((a - 224) * 4096 + (b - 128) * 64 + c - 128) = [a, b, c] ∧ scalarZ ((a - 224) * 4096 + (b - 128) * 64 + c - 128) = true := by
  have := two_bounds h
  rw [cont_iff] at hc
  refine ⟨?_, (scalar_iff _).2 (by omega)⟩
  rw [enc3 (by omega) (by omega)]
  simp only [List.cons.injEq, and_true]; omega
theorem enc_four {a b c d : Int} (h : two a b = true) (ha : 240 ≤ a) (hc : cont c = true) (hd : cont d = true) : enc ((a - 240) * 262144 + (b - 128) * 4096 + (c - 128) * 64 + d - 128) = [a, b, c, d] ∧ scalarZ ((a - 240) * 262144 + (b - 128) * 4096 + (c - 128) * 64 + d - 128) = true := by
  have := two_bounds h
  rw [cont_iff] at hc hd
  refine ⟨?_, (scalar_iff _).2 (by omega)⟩
  rw [enc4 (by omega)]
  simp only [List.cons.injEq, and_true]; omega
theorem scal1 {a : Int} (h : 0 ≤ a ∧ a ≤ 255) : scalB [a] = decide (a < 128) := by
  unfold scalB
  rw [show scalV [a] = a from rfl]
  by_cases c : a < 128
  · rw [enc1 c, (scalar_iff a).2 (by omega)]; simp [c]
  · rw [enc2 (by omega) (by omega)]; simp [c]
theorem scal2 {a b : Int} (h : two a b = true) : scalB [a, b] = decide (a < 224) := by
  have hb := two_bounds h
  unfold scalB
  rw [show scalV [a, b] = (a - 192) * 64 + b - 128 from rfl]
  by_cases c : a < 224
  · rw [enc_two h c, (scalar_iff _).2 (by omega)]; simp [c]
  · rw [enc3 (by omega) (by omega)]; simp [c]
theorem scal3 {a b c : Int} (h : two a b = true) (ha : 224 ≤ a) (hc : cont c = true) : scalB [a, b, c] = decide (a < 240) := by
  have hb := two_bounds h
  unfold scalB
  rw [show scalV [a, b, c] = (a - 224) * 4096 + (b - 128) * 64 + c - 128 from rfl]
  by_cases d : a < 240
  · rw [(enc_three h ⟨ha, d⟩ hc).1, (enc_three h ⟨ha, d⟩ hc).2]; simp [d]
  · rw [cont_iff] at hc
    rw [enc4 (by omega)]; simp [d]
theorem scal4 {a b c d : Int} (h : two a b = true) (ha : 240 ≤ a) (hc : cont c = true) (hd : cont d = true) : scalB [a, b, c, d] = true := by
  unfold scalB
  rw [show scalV [a, b, c, d] = (a - 240) * 262144 + (b - 128) * 4096 + (c - 128) * 64 + d - 128 from rfl]
  rw [(enc_four h ha hc hd).1, (enc_four h ha hc hd).2]; simp
/-- A parse tells a scalar with its bytes, or that something is broken. -/
theorem parse_tells (l : List Int) (h8 : In8u l) (h : (parseZ l).2.2 = false) : scalarZ (parseZ l).1 = true ∧ (enc (parseZ l).1 = l.take (parseZ l).2.1.toNat ∨ ((parseZ l).1 = 65533 ∧ ¬ [239, 191, 189] <+: l)) := by
  have k65 : scalarZ 65533 = true := by decide
  match l with
  | [] => simp [parseZ] at h
  | a :: t =>
    have ha := h8 a (by simp)
    simp only [parseZ] at h ⊢
    by_cases h1 : a < 128
    · rw [if_pos h1]; exact ⟨(scalar_iff a).2 (by omega), .inl (by rw [enc1 h1]; rfl)⟩
    rw [if_neg h1] at h ⊢
    by_cases h2 : a < 194 ∨ 244 < a
    · rw [if_pos h2]; refine ⟨k65, .inr ⟨rfl, ?_⟩⟩; rw [List.cons_prefix_cons]; omega
    rw [if_neg h2] at h ⊢
    match t with
    | [] => simp at h
    | b :: t =>
      dsimp only at h ⊢
      by_cases h3 : two a b = true
      · rw [h3, if_neg (by simp)] at h ⊢
        by_cases h4 : a < 224
        · rw [if_pos h4, show (a - 192) * 64 + (b - 128) = (a - 192) * 64 + b - 128 by omega, enc_two h3 h4]
          have := two_bounds h3
          exact ⟨(scalar_iff _).2 (by dsimp only; omega), .inl rfl⟩
        rw [if_neg h4] at h ⊢
        match t with
        | [] => simp at h
        | c :: t =>
          dsimp only at h ⊢
          by_cases h5 : cont c = true
          · rw [h5, if_neg (by simp)] at h ⊢
            by_cases h6 : a < 240
            · rw [if_pos h6, show (a - 224) * 4096 + (b - 128) * 64 + (c - 128) = (a - 224) * 4096 + (b - 128) * 64 + c - 128 by omega]
              have := enc_three h3 ⟨by omega, h6⟩ h5
              exact ⟨this.2, .inl this.1⟩
            rw [if_neg h6] at h ⊢
            match t with
            | [] => simp at h
            | d :: t =>
              dsimp only at h ⊢
              by_cases h7 : cont d = true
              · rw [h7, if_neg (by simp), show (a - 240) * 262144 + (b - 128) * 4096 + (c - 128) * 64 + (d - 128) = (a - 240) * 262144 + (b - 128) * 4096 + (c - 128) * 64 + d - 128 by omega]
                have := enc_four h3 (by omega) h5 h7
                exact ⟨this.2, .inl this.1⟩
              · rw [Bool.eq_false_iff.2 h7, if_pos rfl]; refine ⟨k65, .inr ⟨rfl, ?_⟩⟩; rw [List.cons_prefix_cons]; omega
          · rw [Bool.eq_false_iff.2 h5, if_pos rfl]; refine ⟨k65, .inr ⟨rfl, ?_⟩⟩
            rw [List.cons_prefix_cons, List.cons_prefix_cons, List.cons_prefix_cons]
            rw [cont_iff] at h5
            omega
      · rw [Bool.eq_false_iff.2 h3, if_pos rfl]; refine ⟨k65, .inr ⟨rfl, ?_⟩⟩
        rw [List.cons_prefix_cons, List.cons_prefix_cons]
        rintro ⟨rfl, rfl, _⟩
        exact h3 (by decide)
/-- A scalar's bytes tell it, whatever comes behind. -/
theorem parse_enc (r : Int) (h : scalarZ r = true) (t : List Int) : parseZ (enc r ++ t) = (r, ((enc r).length : Int), false) := by
  rw [scalar_iff] at h
  by_cases h1 : r < 128
  · rw [enc1 h1]; simp only [List.cons_append, List.nil_append, parseZ]; rw [if_pos h1]; rfl
  by_cases h2 : r < 2048
  · rw [enc2 (by omega) h2]; simp only [List.cons_append, List.nil_append, parseZ]
    rw [if_neg (by omega), if_neg (by omega), two_of (by omega) (by omega) (by omega) (by omega) (by omega), if_neg (by simp), if_pos (by omega)]
    simp only [List.length_cons, List.length_nil, Prod.mk.injEq, and_true]; omega
  by_cases h3 : r < 65536
  · rw [enc3 (by omega) h3]; simp only [List.cons_append, List.nil_append, parseZ]
    rw [if_neg (by omega), if_neg (by omega), two_of (by omega) (by omega) (by omega) (by omega) (by omega), if_neg (by simp), if_neg (by omega), (cont_iff _).2 (by omega), if_neg (by simp), if_pos (by omega)]
    simp only [List.length_cons, List.length_nil, Prod.mk.injEq, and_true]; omega
  · rw [enc4 (by omega)]; simp only [List.cons_append, List.nil_append, parseZ]
    rw [if_neg (by omega), if_neg (by omega), two_of (by omega) (by omega) (by omega) (by omega) (by omega), if_neg (by simp), if_neg (by omega), (cont_iff _).2 (by omega), if_neg (by simp), if_neg (by omega), (cont_iff _).2 (by omega), if_neg (by simp)]
    simp only [List.length_cons, List.length_nil, Prod.mk.injEq, and_true]; omega
theorem enc_len (r : Int) : 1 ≤ (enc r).length ∧ (enc r).length ≤ 4 := by unfold enc; split <;> (try split) <;> (try split) <;> simp
theorem enc_ne (r : Int) : ∃ a t, enc r = a :: t := by unfold enc; split <;> (try split) <;> (try split) <;> exact ⟨_, _, rfl⟩
theorem runes_enc (r : Int) (h : scalarZ r = true) (t : List Int) : runesZ (enc r ++ t) = r :: runesZ t := by
  have hp := parse_enc r h t
  obtain ⟨a, s, e⟩ := enc_ne r
  rw [e, List.cons_append] at hp ⊢
  rw [runesZ_cons, hp, if_neg (by simp)]
  simp only [Int.toNat_natCast]
  rw [← List.cons_append, List.drop_left]
theorem runes_flat : ∀ (l t : List Int), (∀ x ∈ l, scalarZ x = true) → runesZ (l.flatMap enc ++ t) = l ++ runesZ t
  | [], t, _ => rfl
  | r :: l, t, h => by
    rw [List.flatMap_cons, List.append_assoc, runes_enc r (h r (by simp)), runes_flat l t (fun x hx => h x (by simp [hx]))]
    rfl
theorem runes_scalar : ∀ (n : Nat) (l : List Int), l.length ≤ n → In8u l → ∀ x ∈ runesZ l, scalarZ x = true := by
  intro n
  induction n with
  | zero => intro l h _; rw [List.eq_nil_of_length_eq_zero (Nat.le_zero.1 h), runesZ_nil]; simp
  | succ n ih =>
    intro l hl h8 x hx
    match l with
    | [] => rw [runesZ_nil] at hx; simp at hx
    | a :: t =>
      rw [runesZ_cons] at hx
      split at hx
      · simp at hx; subst hx; decide
      · rename_i hb
        have hp := parseZ_pos a t (Bool.eq_false_iff.2 hb)
        rcases List.mem_cons.1 hx with rfl | hx
        · exact (parse_tells _ h8 (Bool.eq_false_iff.2 hb)).1
        · exact ih _ (by rw [List.length_drop]; omega) (fun z hz => h8 z (List.mem_of_mem_drop hz)) x hx
/-- Is nothing broken? -/
def validN : Nat → List Int → Bool
  | 0, _ => true
  | _, [] => true
  | n + 1, l => if (parseZ l).2.2 = true then false else if (parseZ l).1 = 65533 ∧ ¬ [239, 191, 189] <+: l then false else validN n (l.drop (parseZ l).2.1.toNat)
theorem valid_iff : ∀ (n : Nat) (l : List Int), l.length ≤ n → In8u l → validN n l = decide ((runesZ l).flatMap enc = l) := by
  have e65 : enc 65533 = [239, 191, 189] := by decide
  intro n
  induction n with
  | zero => intro l h _; rw [List.eq_nil_of_length_eq_zero (Nat.le_zero.1 h), runesZ_nil]; rfl
  | succ n ih =>
    intro l hl h8
    match l with
    | [] => rfl
    | a :: t =>
      rw [validN, runesZ_cons]
      · by_cases hb : (parseZ (a :: t)).2.2 = true
        · rw [if_pos hb, if_pos hb]
          symm
          rw [decide_eq_false_iff_not]
          intro e
          rw [show [(65533 : Int)].flatMap enc = enc 65533 by simp, e65] at e
          rw [← e] at hb
          revert hb; decide
        · have hp := parseZ_pos a t (Bool.eq_false_iff.2 hb)
          have ht := parse_tells _ h8 (Bool.eq_false_iff.2 hb)
          rw [if_neg hb, if_neg hb, List.flatMap_cons]
          by_cases hk : (parseZ (a :: t)).1 = 65533 ∧ ¬ [239, 191, 189] <+: a :: t
          · rw [if_pos hk]
            symm
            rw [decide_eq_false_iff_not]
            intro e
            rw [hk.1, e65] at e
            exact hk.2 ⟨_, e⟩
          · rw [if_neg hk, ih _ (by rw [List.length_drop]; omega) (fun z hz => h8 z (List.mem_of_mem_drop hz))]
            have he := ht.2.resolve_right hk
            rw [he]
            rw [Bool.eq_iff_iff, decide_eq_true_iff, decide_eq_true_iff]
            constructor
            · intro e; rw [e, List.take_append_drop]
            · intro e
              have e2 := e.trans (List.take_append_drop (parseZ (a :: t)).2.1.toNat (a :: t)).symm
              exact List.append_cancel_left e2
      · simp
end Go.Proofs.Ytlllbaieidbcdaa
