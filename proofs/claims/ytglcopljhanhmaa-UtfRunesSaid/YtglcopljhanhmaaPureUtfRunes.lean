/- What the law UtfRunes reaches answers true. -/
import Derived.Test.YtglcopljhanhmaaPUtfRunesx5
import Derived.Test.YtglcopljhanhmaaUtfB
import Derived.Test.YtglcopljhanhmaaUtfI
import Derived.OpenShut
namespace Go.Proofs.Ytglcopljhanhmaa.Pure
open Go.RowKit Go.Proofs.Ytglcopljhanhmaa.PUtfRunes Go.Proofs.YtglcopljhanhmaaW.PrintWords Go.Proofs.YtglcopljhanhmaaW.PrintLast
set_option linter.unusedVariables false
set_option linter.unusedSimpArgs false
theorem rAhead_l (a b : List Int) (ha : a.length ≤ 1000000) (hb : b.length ≤ 1000000) : ∀ (d i k : Nat), i + d = a.length → i ≤ b.length → 2 * d + 2 < k → prolepsisref02_ahead.l0 k a b (i : Int) = some (ahead (a.drop i) (b.drop i)) := by
  intro d
  induction d with
  | zero =>
    intro i k hi hib hk
    obtain ⟨k, rfl⟩ : ∃ m, k = m + 2 := ⟨k - 2, by omega⟩
    rw [prolepsisref02_ahead.l0, if_neg (by omega), prolepsisref02_ahead.j1, if_neg (by simp), List.drop_eq_nil_of_le (show a.length ≤ i by omega)]
    by_cases h : i < b.length
    · rw [drop_rd h]; simp [ahead]; omega
    · rw [List.drop_eq_nil_of_le (show b.length ≤ i by omega)]; simp [ahead]; omega
  | succ d ih =>
    intro i k hi hib hk
    obtain ⟨k, rfl⟩ : ∃ m, k = m + 2 := ⟨k - 2, by omega⟩
    rw [prolepsisref02_ahead.l0, if_pos (by omega), drop_rd (show i < a.length by omega)]
    by_cases h : i < b.length
    · rw [show decide ((i : Int) < (b.length : Int)) = true by simp; omega, prolepsisref02_ahead.j1, if_pos rfl, if_pos (by omega), if_pos (by omega), if_pos (by omega), w64 (by omega) (by omega), cast1, drop_rd h]
      simp only [ahead]
      by_cases e : rd a (i : Int) = rd b (i : Int)
      · rw [if_pos e, if_pos e, ih (i + 1) k (by omega) (by omega) (by omega)]
      · rw [if_neg e, if_neg e]
    · rw [show decide ((i : Int) < (b.length : Int)) = false by simp; omega, prolepsisref02_ahead.j1, if_neg (by simp), List.drop_eq_nil_of_le (show b.length ≤ i by omega)]
      simp [ahead]; omega
theorem rAhead_ok (a b : List Int) (ha : a.length ≤ 1000000) (hb : b.length ≤ 1000000) (k : Nat) (hk : 2 * a.length + 2 < k) : prolepsisref02_ahead.f k a b = some (ahead a b) := by
  unfold prolepsisref02_ahead.f
  have := rAhead_l a b ha hb a.length 0 k (by omega) (by omega) hk
  simpa using this
theorem rPre_l (p x : List Int) (hp : p.length ≤ 1000000) (hl : p.length ≤ x.length) : ∀ (d i k : Nat), i + d = p.length → d < k → prolepsisref02_within.l1 k p x (i : Int) = some (decide (p.drop i <+: x.drop i)) := by
  intro d
  induction d with
  | zero =>
    intro i k hi hk
    obtain ⟨k, rfl⟩ := kp hk
    rw [prolepsisref02_within.l1, if_neg (by omega), List.drop_eq_nil_of_le (show p.length ≤ i by omega)]
    simp
  | succ d ih =>
    intro i k hi hk
    obtain ⟨k, rfl⟩ := kp hk
    rw [prolepsisref02_within.l1, if_pos (by omega), if_pos (by omega), if_pos (by omega), w64 (by omega) (by omega), cast1, drop_rd (show i < p.length by omega), drop_rd (show i < x.length by omega)]
    by_cases e : rd x (i : Int) = rd p (i : Int)
    · rw [if_pos e, ih (i + 1) k (by omega) (by omega), e]
      congr 1
      rw [Bool.eq_iff_iff]
      simp [List.cons_prefix_cons]
    · rw [if_neg e]
      simp [List.cons_prefix_cons, Ne.symm e]

theorem scalar_mend {r : Int} (h : scalarZ r = true) : mend r = r := by unfold mend; rw [if_pos h]
/-- The search: p begins some scalar from lo to hi, all of them scalars. -/
theorem rWithin_l (p : List Int) (hp : p.length ≤ 4) (lo0 hi0 : Int) (h0 : 0 ≤ lo0) (hs : ∀ s, lo0 ≤ s → s ≤ hi0 → scalarZ s = true) : ∀ (d : Nat) (lo hi : Int) (k : Nat), lo0 ≤ lo → lo ≤ hi → hi ≤ hi0 → hi - lo < 2 ^ d → d + 20 < k →
    (∀ s, lo0 ≤ s → s < lo → ahead (enc s) p = true) → (hi = hi0 ∨ ahead (enc hi) p = false) →
    ∃ b, prolepsisref02_within.l0 k p lo hi = some b ∧ (b = true ↔ ∃ s, lo0 ≤ s ∧ s ≤ hi0 ∧ p <+: enc s) := by
  intro d
  induction d with
  | zero =>
    intro lo hi k h1 h2 h3 hd hk hlo hhi
    obtain ⟨k, rfl⟩ := kp hk
    obtain rfl : lo = hi := by simp at hd; omega
    have hsc := hs lo h1 h3
    rw [prolepsisref02_within.l0, if_neg (by omega), rBytes_ok _ k (by omega), scalar_mend hsc]
    simp only [Option.bind_some]
    have hup : ∀ s, lo0 ≤ s → s ≤ hi0 → p <+: enc s → p <+: enc lo := by
      intro s hs0 hs1 hpre
      have hge : lo ≤ s := by
        by_cases hlt : s < lo
        · have := hlo s hs0 hlt; rw [pre_ahead p _ hpre] at this; cases this
        · omega
      by_cases e : lo = s
      · rw [e]; exact hpre
      · have hsc2 := (scalar_iff s).1 (hs s hs0 hs1)
        rcases hhi with h | h
        · omega
        · exact pre_between p (enc lo) (enc s) h (enc_le lo s (by omega) hge (by omega)) hpre
    by_cases hl : ((enc lo).length : Int) < (p.length : Int)
    · rw [if_pos hl]
      refine ⟨false, rfl, by simp, ?_⟩
      rintro ⟨s, hs0, hs1, hpre⟩
      have := (hup s hs0 hs1 hpre).length_le
      omega
    · rw [if_neg hl]
      have := rPre_l p (enc lo) (by omega) (by omega) p.length 0 k (by omega) (by omega)
      refine ⟨_, by simpa using this, ?_⟩
      rw [decide_eq_true_iff]
      exact ⟨fun h => ⟨lo, h1, h3, h⟩, fun ⟨s, a, b, c⟩ => hup s a b c⟩
  | succ d ih =>
    intro lo hi k h1 h2 h3 hd hk hlo hhi
    have hsl := (scalar_iff lo).1 (hs lo h1 (by omega))
    have hsh := (scalar_iff hi).1 (hs hi (by omega) h3)
    by_cases e : lo < hi
    · obtain ⟨k, rfl⟩ := kp hk
      have hm0 : lo ≤ (lo + hi) / 2 := by omega
      have hm1 : (lo + hi) / 2 < hi := by omega
      have hsc := hs ((lo + hi) / 2) (by omega) (by omega)
      have hel := enc_len ((lo + hi) / 2)
      rw [prolepsisref02_within.l0, if_pos e, w64 (x := lo + hi) (by omega) (by omega), td (by omega), w64 (x := (lo + hi) / 2) (by omega) (by omega), rBytes_ok _ k (by omega), scalar_mend hsc]
      simp only [Option.bind_some]
      rw [rAhead_ok _ _ (by omega) (by omega) k (by omega)]
      simp only [Option.bind_some]
      have hp2 : (2 : Int) ^ (d + 1) = 2 * 2 ^ d := by rw [Int.pow_succ]; omega
      rw [hp2] at hd
      cases ha : ahead (enc ((lo + hi) / 2)) p
      · rw [if_neg (by simp)]
        exact ih lo ((lo + hi) / 2) k h1 hm0 (by omega) (by omega) (by omega) hlo (.inr ha)
      · rw [if_pos rfl, w64 (by omega) (by omega)]
        refine ih ((lo + hi) / 2 + 1) hi k (by omega) (by omega) h3 (by omega) (by omega) ?_ hhi
        intro s hs0 hs1
        have hss := (scalar_iff s).1 (hs s hs0 (by omega))
        cases hb : ahead (enc s) p
        · have := ahead_trans (enc ((lo + hi) / 2)) (enc s) p (enc_le s ((lo + hi) / 2) (by omega) (by omega) (by omega)) hb
          rw [ha] at this; cases this
        · rfl
    · obtain rfl : lo = hi := by omega
      exact ih lo lo k h1 (Int.le_refl _) h3 (by rw [Int.sub_self]; exact Int.pow_pos (by decide)) (by omega) hlo hhi
theorem rBegins_ok (p : List Int) (h8 : In8u p) (k : Nat) (hk : 60 < k) : prolepsisref02_begins.f k p = some (begZ p) := by
  unfold prolepsisref02_begins.f
  by_cases hp : (p.length : Int) ≤ 4
  · rw [if_pos hp]
    obtain ⟨b1, e1, i1⟩ := rWithin_l p (by omega) 0 55295 (by omega) (fun s a b => (scalar_iff s).2 (by omega)) 21 0 55295 k (by omega) (by omega) (by omega) (by decide) (by omega) (fun s a b => by omega) (.inl rfl)
    obtain ⟨b2, e2, i2⟩ := rWithin_l p (by omega) 57344 1114111 (by omega) (fun s a b => (scalar_iff s).2 (by omega)) 21 57344 1114111 k (by omega) (by omega) (by omega) (by decide) (by omega) (fun s a b => by omega) (.inl rfl)
    unfold prolepsisref02_within.f
    rw [e1, e2]
    simp only [Option.bind_some]
    have key : begZ p = (b1 || b2) := by
      rw [Bool.eq_iff_iff, Bool.or_eq_true, i1, i2]
      constructor
      · intro h
        obtain ⟨s, hs, hpre⟩ := begins_enc p h8 h
        rcases (scalar_iff s).1 hs with a | a
        · exact .inl ⟨s, a.1, a.2, hpre⟩
        · exact .inr ⟨s, a.1, a.2, hpre⟩
      · rintro (⟨s, a, b, hpre⟩ | ⟨s, a, b, hpre⟩) <;> exact enc_begins s ((scalar_iff s).2 (by omega)) p hpre
    rw [key]
    cases b1 <;> simp
  · rw [if_neg hp]
    match p, hp with
    | [], h => simp at h
    | [_], h => simp at h
    | [_, _], h => simp at h
    | [_, _, _], h => simp at h
    | [_, _, _, _], h => simp at h
    | _ :: _ :: _ :: _ :: _ :: _, _ => rfl
theorem takeS (l : List Int) (n : Nat) (h : n < l.length) : l.take (wrap64 ((n : Int) + 1)).toNat = l.take (n + 1) ∧ wrap64 ((n : Int) + 1) = ((n + 1 : Nat) : Int) ∨ 9223372036854775807 ≤ n := by
  by_cases hn : 9223372036854775807 ≤ n
  · exact .inr hn
  · rw [w64 (by omega) (by omega)]; exact .inl ⟨by rw [show ((n : Int) + 1).toNat = n + 1 by omega], by omega⟩
theorem rScal (l : List Int) (h8 : In8u l) (hne : l ≠ []) : prolepsisref02_scalar.f l = some (scalV l, scalB l) := by
  unfold prolepsisref02_scalar.f
  rw [if_pos ⟨hne, List.all_eq_true.2 (fun x hx => decide_eq_true (h8 x hx))⟩]
theorem rF_end (k : Nat) (l : List Int) (n : Nat) (h : n = l.length) : prolepsisref02_First.l0 (k + 2) l (n : Int) = some (0, 0) := by
  rw [prolepsisref02_First.l0, if_neg (by omega), prolepsisref02_First.j1, if_neg (by simp), if_pos (by omega)]
theorem rF_stop (k : Nat) (l : List Int) (n : Nat) (h8 : In8u l) (h : n < l.length) (hl : l.length ≤ 1000000) (hk : 60 ≤ k) (hb : begZ (l.take (n + 1)) = false) : prolepsisref02_First.l0 (k + 2) l (n : Int) = some (65533, if n = 0 then 1 else (n : Int)) := by
  obtain ⟨e1, e2⟩ := (takeS l n h).resolve_right (by omega)
  rw [prolepsisref02_First.l0, if_pos (by omega), e1, e2, if_pos (by omega), if_pos (by omega), rBegins_ok (l.take (n + 1)) (fun x hx => h8 x (List.mem_of_mem_take hx)) (k + 1) (by omega), hb]
  simp only [Option.bind_some]
  rw [prolepsisref02_First.j1, if_neg (by simp), if_neg (by omega)]
  by_cases e : n = 0
  · rw [if_pos (by omega), if_pos e]
  · rw [if_neg (by omega), if_neg e]
theorem rF_j1 (k : Nat) (l : List Int) (n : Nat) (h8 : In8u l) (h : n < l.length) (hl : l.length ≤ 1000000) : prolepsisref02_First.j1 (k + 1) l (n : Int) true = (if scalB (l.take (n + 1)) = true then some (scalV (l.take (n + 1)), ((n + 1 : Nat) : Int)) else prolepsisref02_First.l0 k l ((n + 1 : Nat) : Int)) := by
  obtain ⟨e1, e2⟩ := (takeS l n h).resolve_right (by omega)
  have hs := rScal (l.take (n + 1)) (fun x hx => h8 x (List.mem_of_mem_take hx)) (by intro e; rw [List.take_eq_nil_iff] at e; rcases e with e | e; exact absurd e (by omega); rw [e] at h; exact absurd h (by simp))
  have g1 : (0 : Int) ≤ ((n + 1 : Nat) : Int) := by omega
  have g2 : ((n + 1 : Nat) : Int) ≤ (l.length : Int) := by omega
  rw [prolepsisref02_First.j1, if_pos (show true = true from rfl), e1, e2, if_pos g1, if_pos g2, hs, Option.bind_some]
theorem rF_go (k : Nat) (l : List Int) (n : Nat) (h8 : In8u l) (h : n < l.length) (hl : l.length ≤ 1000000) (hk : 60 ≤ k) (hb : begZ (l.take (n + 1)) = true) : prolepsisref02_First.l0 (k + 2) l (n : Int) = (if scalB (l.take (n + 1)) = true then some (scalV (l.take (n + 1)), ((n + 1 : Nat) : Int)) else prolepsisref02_First.l0 k l ((n + 1 : Nat) : Int)) := by
  obtain ⟨e1, e2⟩ := (takeS l n h).resolve_right (by omega)
  have g0 : (n : Int) < (l.length : Int) := by omega
  have g1 : (0 : Int) ≤ ((n + 1 : Nat) : Int) := by omega
  have g2 : ((n + 1 : Nat) : Int) ≤ (l.length : Int) := by omega
  have hs := rBegins_ok (l.take (n + 1)) (fun x hx => h8 x (List.mem_of_mem_take hx)) (k + 1) (by omega)
  rw [← rF_j1 k l n h8 h hl, prolepsisref02_First.l0, if_pos g0, e1, e2, if_pos g1, if_pos g2, hs, hb, Option.bind_some]
theorem beg1 (a : Int) (h0 : 0 ≤ a) : begZ [a] = decide (a < 128 ∨ 194 ≤ a ∧ a ≤ 244) := by simp [begZ]
def firstZ (l : List Int) : Int × Int := if (parseZ l).2.2 = true then (0, 0) else ((parseZ l).1, (parseZ l).2.1)
theorem rFirst_ok (l : List Int) (h8 : In8u l) (hl : l.length ≤ 1000000) (k : Nat) (hk : 80 ≤ k) : prolepsisref02_First.f k l = some (firstZ l) := by
  obtain ⟨k, rfl⟩ : ∃ m, k = m + 10 := ⟨k - 10, by omega⟩
  unfold prolepsisref02_First.f firstZ
  cases l with
  | nil => rfl
  | cons a t =>
    have ha := h8 a (by simp)
    have hl0 : 0 < (a :: t).length := by simp
    obtain ⟨p, hp⟩ : ∃ p, parseZ (a :: t) = p := ⟨_, rfl⟩
    rw [hp]
    simp only [parseZ] at hp
    rw [show prolepsisref02_First.l0 (k + 10) (a :: t) 0 = prolepsisref02_First.l0 (k + 8 + 2) (a :: t) ((0 : Nat) : Int) from rfl]
    have tk1 : (a :: t).take (0 + 1) = [a] := rfl
    by_cases h1 : a < 128
    · rw [if_pos h1] at hp
      rw [rF_go (k + 8) (a :: t) 0 h8 hl0 hl (by omega) (by rw [tk1, beg1 _ ha.1]; simp [h1]), tk1, if_pos (by rw [scal1 ha]; simp [h1]), ← hp]
      rfl
    rw [if_neg h1] at hp
    by_cases h2 : a < 194 ∨ 244 < a
    · rw [if_pos h2] at hp
      rw [rF_stop (k + 8) (a :: t) 0 h8 hl0 hl (by omega) (by rw [tk1, beg1 _ ha.1, decide_eq_false_iff_not]; omega), ← hp]
      rfl
    rw [if_neg h2] at hp
    rw [rF_go (k + 8) (a :: t) 0 h8 hl0 hl (by omega) (by rw [tk1, beg1 _ ha.1, decide_eq_true_iff]; omega), tk1, if_neg (by rw [scal1 ha]; simp; omega)]
    cases t with
    | nil => rw [← hp, rF_end (k + 6) [a] (0 + 1) rfl]; rfl
    | cons b t =>
      dsimp only at hp
      have tk2 : (a :: b :: t).take (0 + 1 + 1) = [a, b] := rfl
      have hl1 : 0 + 1 < (a :: b :: t).length := by simp
      by_cases h3 : two a b = true
      · rw [h3, if_neg (by simp)] at hp
        rw [rF_go (k + 6) (a :: b :: t) (0 + 1) h8 hl1 hl (by omega) (by rw [tk2]; exact h3), tk2]
        by_cases h4 : a < 224
        · rw [if_pos h4] at hp
          rw [if_pos (by rw [scal2 h3]; simp [h4]), ← hp, show scalV [a, b] = (a - 192) * 64 + b - 128 from rfl, show (a - 192) * 64 + (b - 128) = (a - 192) * 64 + b - 128 by omega]
          rfl
        rw [if_neg h4] at hp
        rw [if_neg (by rw [scal2 h3]; simp [h4])]
        cases t with
        | nil => rw [← hp, rF_end (k + 4) [a, b] (0 + 1 + 1) rfl]; rfl
        | cons c t =>
          dsimp only at hp
          have tk3 : (a :: b :: c :: t).take (0 + 1 + 1 + 1) = [a, b, c] := rfl
          have hl2 : 0 + 1 + 1 < (a :: b :: c :: t).length := by simp
          by_cases h5 : cont c = true
          · rw [h5, if_neg (by simp)] at hp
            rw [rF_go (k + 4) (a :: b :: c :: t) (0 + 1 + 1) h8 hl2 hl (by omega) (by rw [tk3]; simp [begZ, h3, h5]; omega), tk3]
            by_cases h6 : a < 240
            · rw [if_pos h6] at hp
              rw [if_pos (by rw [scal3 h3 (by omega) h5]; simp [h6]), ← hp, show scalV [a, b, c] = (a - 224) * 4096 + (b - 128) * 64 + c - 128 from rfl, show (a - 224) * 4096 + (b - 128) * 64 + (c - 128) = (a - 224) * 4096 + (b - 128) * 64 + c - 128 by omega]
              rfl
            rw [if_neg h6] at hp
            rw [if_neg (by rw [scal3 h3 (by omega) h5]; simp [h6])]
            cases t with
            | nil => rw [← hp, rF_end (k + 2) [a, b, c] (0 + 1 + 1 + 1) rfl]; rfl
            | cons d t =>
              dsimp only at hp
              have tk4 : (a :: b :: c :: d :: t).take (0 + 1 + 1 + 1 + 1) = [a, b, c, d] := rfl
              have hl3 : 0 + 1 + 1 + 1 < (a :: b :: c :: d :: t).length := by simp
              by_cases h7 : cont d = true
              · rw [h7, if_neg (by simp)] at hp
                rw [rF_go (k + 2) (a :: b :: c :: d :: t) (0 + 1 + 1 + 1) h8 hl3 hl (by omega) (by rw [tk4]; simp [begZ, h3, h5, h7]; omega), tk4, if_pos (scal4 h3 (by omega) h5 h7), ← hp, show scalV [a, b, c, d] = (a - 240) * 262144 + (b - 128) * 4096 + (c - 128) * 64 + d - 128 from rfl, show (a - 240) * 262144 + (b - 128) * 4096 + (c - 128) * 64 + (d - 128) = (a - 240) * 262144 + (b - 128) * 4096 + (c - 128) * 64 + d - 128 by omega]
                rfl
              · rw [Bool.eq_false_iff.2 h7, if_pos rfl] at hp
                rw [rF_stop (k + 2) (a :: b :: c :: d :: t) (0 + 1 + 1 + 1) h8 hl3 hl (by omega) (by rw [tk4]; simp [begZ, h7]), ← hp]
                rfl
          · rw [Bool.eq_false_iff.2 h5, if_pos rfl] at hp
            rw [rF_stop (k + 4) (a :: b :: c :: t) (0 + 1 + 1) h8 hl2 hl (by omega) (by rw [tk3]; simp [begZ, h5]), ← hp]
            rfl
      · rw [Bool.eq_false_iff.2 h3, if_pos rfl] at hp
        rw [rF_stop (k + 6) (a :: b :: t) (0 + 1) h8 hl1 hl (by omega) (by rw [tk2]; exact Bool.eq_false_iff.2 h3), ← hp]
        rfl
/-- What is cut: the scalars, and what is held. -/
def cutN : Nat → List Int → List Int × List Int
  | 0, l => ([], l)
  | _, [] => ([], [])
  | n + 1, l => if (parseZ l).2.2 = true then ([], l) else ((parseZ l).1 :: (cutN n (l.drop (parseZ l).2.1.toNat)).1, (cutN n (l.drop (parseZ l).2.1.toNat)).2)
theorem cut_runes : ∀ (n : Nat) (l : List Int), l.length ≤ n → runesZ l = (cutN n l).1 ++ (if (cutN n l).2 = [] then [] else [65533]) := by
  intro n
  induction n with
  | zero => intro l h; rw [List.eq_nil_of_length_eq_zero (Nat.le_zero.1 h)]; rfl
  | succ n ih =>
    intro l hl
    match l with
    | [] => rfl
    | a :: t =>
      rw [runesZ_cons, cutN]
      · by_cases hb : (parseZ (a :: t)).2.2 = true
        · rw [if_pos hb, if_pos hb]; rfl
        · have hp := parseZ_pos a t (Bool.eq_false_iff.2 hb)
          rw [if_neg hb, if_neg hb, ih _ (by rw [List.length_drop]; omega)]
          rfl
      · simp
theorem cut_len : ∀ (n : Nat) (l : List Int), (cutN n l).1.length ≤ n := by
  intro n
  induction n with
  | zero => intro l; simp [cutN]
  | succ n ih =>
    intro l
    match l with
    | [] => simp [cutN]
    | a :: t =>
      rw [cutN]
      · split
        · simp
        · have := ih ((a :: t).drop (parseZ (a :: t)).2.1.toNat); simp; exact this
      · simp
theorem rCut_l : ∀ (n : Nat) (l out : List Int) (k : Nat), l.length ≤ n → In8u l → out.length + n ≤ 1000000 → n + 90 ≤ k → prolepsisref02_Cut.l0 k l out = some (out ++ (cutN n l).1, (cutN n l).2) := by
  intro n
  induction n with
  | zero =>
    intro l out k hl h8 ho hk
    obtain ⟨k, rfl⟩ : ∃ m, k = m + 1 := ⟨k - 1, by omega⟩
    rw [List.eq_nil_of_length_eq_zero (Nat.le_zero.1 hl), prolepsisref02_Cut.l0, if_neg (by simp)]
    simp [cutN]
  | succ n ih =>
    intro l out k hl h8 ho hk
    obtain ⟨k, rfl⟩ : ∃ m, k = m + 1 := ⟨k - 1, by omega⟩
    match l with
    | [] => rw [prolepsisref02_Cut.l0, if_neg (by simp)]; simp [cutN]
    | a :: t =>
      rw [prolepsisref02_Cut.l0, if_pos (by simp only [List.length_cons]; omega), rFirst_ok _ h8 (by omega) k (by omega), cutN]
      · simp only [Option.bind_some]
        unfold firstZ
        by_cases hb : (parseZ (a :: t)).2.2 = true
        · rw [if_pos hb, if_pos hb, if_pos rfl, List.append_nil]
        · have hp := parseZ_pos a t (Bool.eq_false_iff.2 hb)
          rw [if_neg hb, if_neg hb, if_neg (by dsimp only; omega), if_pos (by omega), if_pos (by dsimp only; omega), if_pos (by dsimp only; omega), ih _ _ k (by rw [List.length_drop]; omega) (fun x hx => h8 x (List.mem_of_mem_drop hx)) (by simp only [List.length_append, List.length_cons, List.length_nil]; omega) (by omega)]
          rw [List.append_assoc, List.singleton_append]
      · simp
theorem rCut_ok (l : List Int) (h8 : In8u l) (hl : l.length ≤ 1000000) (k : Nat) (hk : l.length + 90 ≤ k) : prolepsisref02_Cut.f k l = some (cutN l.length l) := by
  unfold prolepsisref02_Cut.f
  rw [rCut_l l.length l [] k (Nat.le_refl _) h8 (by simp; omega) hk]
  rfl
theorem rRunes_ok (l : List Int) (h8 : In8u l) (hl : l.length ≤ 1000000) (k : Nat) (hk : l.length + 90 ≤ k) : prolepsisref02_Runes.f k l = some (runesZ l) := by
  unfold prolepsisref02_Runes.f
  rw [rCut_ok l h8 hl k hk, cut_runes l.length l (Nat.le_refl _)]
  have := cut_len l.length l
  simp only [Option.bind_some]
  by_cases h : (cutN l.length l).2 = []
  · rw [if_neg (by rw [h]; simp), if_pos h, List.append_nil]
  · rw [if_pos (by have := List.length_pos_iff.2 h; omega), if_pos (by omega), if_neg h]
theorem uFirst_ok (l : List Int) (h8 : In8u l) (k : Nat) (hk : 10 ≤ k) : utf_First.f k l = some (if l = [] then (0, 0) else ((parseZ l).1, (parseZ l).2.1)) := by
  unfold utf_First.f
  by_cases h : l = []
  · rw [if_pos (by rw [h]; rfl), if_pos h]
  · rw [if_neg (by have := List.length_pos_iff.2 h; omega), if_neg h, p_parse l h8 h k hk]
    rfl
theorem parse_more (l : List Int) (h : (parseZ l).2.2 = true) : parseZ l = (0, 0, true) := by
  match l with
  | [] => rfl
  | a :: t =>
    simp only [parseZ] at h ⊢
    by_cases h1 : a < 128
    · rw [if_pos h1] at h; simp at h
    rw [if_neg h1] at h ⊢
    by_cases h2 : a < 194 ∨ 244 < a
    · rw [if_pos h2] at h; simp at h
    rw [if_neg h2] at h ⊢
    match t with
    | [] => rfl
    | b :: t =>
      dsimp only at h ⊢
      by_cases h3 : two a b = false
      · rw [if_pos h3] at h; simp at h
      rw [if_neg h3] at h ⊢
      by_cases h4 : a < 224
      · rw [if_pos h4] at h; simp at h
      rw [if_neg h4] at h ⊢
      match t with
      | [] => rfl
      | c :: t =>
        dsimp only at h ⊢
        by_cases h5 : cont c = false
        · rw [if_pos h5] at h; simp at h
        rw [if_neg h5] at h ⊢
        by_cases h6 : a < 240
        · rw [if_pos h6] at h; simp at h
        rw [if_neg h6] at h ⊢
        match t with
        | [] => rfl
        | d :: t =>
          dsimp only at h ⊢
          by_cases h7 : cont d = false
          · rw [if_pos h7] at h; simp at h
          rw [if_neg h7] at h; simp at h
theorem pre3 (l : List Int) : [239, 191, 189] <+: l ↔ 3 ≤ l.length ∧ rd l 0 = 239 ∧ rd l 1 = 191 ∧ rd l 2 = 189 := by
  match l with
  | [] => simp
  | [a] => simp [List.cons_prefix_cons]
  | [a, b] => simp [List.cons_prefix_cons]
  | a :: b :: c :: t =>
    rw [List.cons_prefix_cons, List.cons_prefix_cons, List.cons_prefix_cons]
    simp [rd]
    omega
theorem broken_len (l : List Int) (h : [239, 191, 189] <+: l) : parseZ l = (65533, 3, false) := by
  obtain ⟨t, rfl⟩ := h
  rfl
theorem uValid_l : ∀ (n : Nat) (l : List Int) (k : Nat), l.length ≤ n → In8u l → n ≤ 1000000 → n + 12 < k → utf_Valid.l0 k l = some (validN n l) := by
  intro n
  induction n with
  | zero =>
    intro l k hl h8 ho hk
    obtain ⟨k, rfl⟩ : ∃ m, k = m + 1 := ⟨k - 1, by omega⟩
    rw [List.eq_nil_of_length_eq_zero (Nat.le_zero.1 hl), utf_Valid.l0, if_neg (by simp)]
    rfl
  | succ n ih =>
    intro l k hl h8 ho hk
    obtain ⟨k, rfl⟩ : ∃ m, k = m + 1 := ⟨k - 1, by omega⟩
    match l with
    | [] => rw [utf_Valid.l0, if_neg (by simp)]; rfl
    | a :: t =>
      rw [utf_Valid.l0, if_pos (by simp only [List.length_cons]; omega), p_parse (a :: t) h8 (by simp) k (by omega), validN]
      · simp only [Option.bind_some]
        by_cases hb : (parseZ (a :: t)).2.2 = true
        · rw [if_pos hb, if_pos hb]
        · have hp := parseZ_pos a t (Bool.eq_false_iff.2 hb)
          have hi := ih ((a :: t).drop (parseZ (a :: t)).2.1.toNat) k (by rw [List.length_drop]; omega) (fun x hx => h8 x (List.mem_of_mem_drop hx)) (by omega) (by omega)
          rw [if_neg hb, if_neg hb]
          by_cases hr : (parseZ (a :: t)).1 = 65533
          · rw [if_pos hr]
            by_cases h3 : [239, 191, 189] <+: a :: t
            · have hq := broken_len _ h3
              rw [pre3] at h3
              rw [hq] at hi hp ⊢
              rw [if_pos rfl, if_pos (by omega), if_pos h3.2.1, if_pos (by omega), if_pos h3.2.2.1, if_pos (by omega), if_pos h3.2.2.2, if_pos (by dsimp only; omega), if_pos (by dsimp only; omega), hi, if_neg (fun hh => hh.2 ((pre3 (a :: t)).2 h3))]
            · rw [if_pos (show (parseZ (a :: t)).1 = 65533 ∧ ¬ [239, 191, 189] <+: a :: t from ⟨hr, h3⟩)]
              by_cases c3 : (parseZ (a :: t)).2.1 = 3
              · rw [if_pos c3, if_pos (by omega)]
                by_cases d0 : rd (a :: t) 0 = 239
                · rw [if_pos d0, if_pos (by omega)]
                  by_cases d1 : rd (a :: t) 1 = 191
                  · rw [if_pos d1, if_pos (by omega)]
                    by_cases d2 : rd (a :: t) 2 = 189
                    · exact absurd ((pre3 _).2 ⟨by omega, d0, d1, d2⟩) h3
                    · rw [if_neg d2]
                  · rw [if_neg d1]
                · rw [if_neg d0]
              · rw [if_neg c3]
          · rw [if_neg hr, if_pos (by omega), if_pos (by omega), if_neg (by simp [hr]), hi]
      · simp
theorem uValid_ok (l : List Int) (h8 : In8u l) (hl : l.length ≤ 1000000) (k : Nat) (hk : l.length + 12 < k) : utf_Valid.f k l = some (decide ((runesZ l).flatMap enc = l)) := by
  unfold utf_Valid.f
  rw [uValid_l l.length l k (Nat.le_refl _) h8 hl hk, valid_iff l.length l (Nat.le_refl _) h8]
theorem flat_len (l : List Int) : (l.flatMap enc).length ≤ 4 * l.length := by
  induction l with
  | nil => simp
  | cons a t ih => rw [List.flatMap_cons, List.length_append, List.length_cons]; have := enc_len a; omega
theorem rAll_l (l : List Int) (hl : l.length ≤ 1000000) : ∀ (d i k : Nat) (out : List Int), i + d = l.length → out.length ≤ 4 * i → d + 2 ≤ k → prolepsisref02_All.l0 k l out (i : Int) = some (out ++ (l.drop i).flatMap (fun r => enc (mend r))) := by
  intro d
  induction d with
  | zero =>
    intro i k out hi ho hk
    obtain ⟨k, rfl⟩ : ∃ m, k = m + 1 := ⟨k - 1, by omega⟩
    rw [prolepsisref02_All.l0, if_neg (by omega), List.drop_eq_nil_of_le (by omega)]
    simp
  | succ d ih =>
    intro i k out hi ho hk
    obtain ⟨k, rfl⟩ : ∃ m, k = m + 1 := ⟨k - 1, by omega⟩
    have he := enc_len (mend (rd l (i : Int)))
    rw [prolepsisref02_All.l0, if_pos (by omega), if_pos (by omega), rBytes_ok _ k (by omega)]
    simp only [Option.bind_some]
    rw [if_pos (by omega), w64 (by omega) (by omega), cast1, ih (i + 1) k _ (by omega) (by rw [List.length_append]; omega) (by omega), drop_rd (show i < l.length by omega), List.flatMap_cons, List.append_assoc]
theorem rAll_ok (l : List Int) (hl : l.length ≤ 1000000) (k : Nat) (hk : l.length + 2 ≤ k) : prolepsisref02_All.f k l = some (l.flatMap (fun r => enc (mend r))) := by
  unfold prolepsisref02_All.f
  have := rAll_l l hl l.length 0 k [] (by omega) (by simp) hk
  simpa using this
theorem flat_mend {l : List Int} (h : ∀ x ∈ l, scalarZ x = true) : l.flatMap (fun r => enc (mend r)) = l.flatMap enc := by
  induction l with
  | nil => rfl
  | cons a t ih => rw [List.flatMap_cons, List.flatMap_cons, scalar_mend (h a (by simp)), ih (fun x hx => h x (by simp [hx]))]
theorem flat_in8 {l : List Int} (h : ∀ x ∈ l, scalarZ x = true) : In8u (l.flatMap enc) := by
  intro x hx
  obtain ⟨a, ha, hx⟩ := List.mem_flatMap.1 hx
  exact enc_in8 (h a ha) x hx
theorem mn_len {n : Nat} {c : Int} (hc : 0 ≤ c) : 0 ≤ mn (n : Int) c ∧ mn (n : Int) c ≤ n ∧ mn (n : Int) c ≤ c := by unfold mn; split <;> omega
theorem in32 {x : Int} (h : (Lit.int .i32 x).wf = true) : -2147483648 ≤ x ∧ x ≤ 2147483647 := by have := bounds_i32 h; omega
theorem in8 {x : Int} (h : (Lit.int .u8 x).wf = true) : 0 ≤ x ∧ x ≤ 255 := by have := bounds_u8 h; omega
theorem first_same (l : List Int) : (if l = [] then ((0 : Int), (0 : Int)) else ((parseZ l).1, (parseZ l).2.1)) = firstZ l := by
  unfold firstZ
  by_cases h : (parseZ l).2.2 = true
  · rw [if_pos h, parse_more l h]; split <;> rfl
  · rw [if_neg h, if_neg (by intro e; rw [e] at h; exact h rfl)]
theorem firstZ_small (l : List Int) (h8 : In8u l) : 0 ≤ (firstZ l).1 ∧ (firstZ l).1 ≤ 1114111 := by
  unfold firstZ
  by_cases h : (parseZ l).2.2 = true
  · rw [if_pos h]; decide
  · rw [if_neg h]
    have := (scalar_iff _).1 (parse_tells l h8 (Bool.eq_false_iff.2 h)).1
    dsimp only; omega
theorem UtfRunes : prolepsislaw02_UtfRunes.Pure := by
  intro l0 hm hs hw
  have h8 : In8u l0 := fun x hx => in8 (hw x hx)
  refine ⟨1000, ?_⟩
  have hn := mn_len (n := l0.length) (c := 60) (by omega)
  unfold prolepsislaw02_UtfRunes.f
  rw [if_pos hn.1, if_pos hn.2.1]
  have hL : (l0.take (mn (l0.length : Int) 60).toNat).length ≤ 60 := by rw [List.length_take]; omega
  have h8L : In8u (l0.take (mn (l0.length : Int) 60).toNat) := fun x hx => h8 x (List.mem_of_mem_take hx)
  generalize l0.take (mn (l0.length : Int) 60).toNat = l at hL h8L
  have hf := firstZ_small l h8L
  have hsc := runes_scalar l.length l (Nat.le_refl _) h8L
  have h32 : ∀ x ∈ runesZ l, -2147483648 ≤ x ∧ x ≤ 2147483647 := fun x hx => by have := (scalar_iff x).1 (hsc x hx); omega
  have hrl := runesZ_len l
  rw [uFirst_ok l h8L 1000 (by omega), first_same, Option.bind_some, rFirst_ok l h8L (by omega) 1000 (by omega), Option.bind_some, rRunes_ok l h8L (by omega) 1000 (by omega), Option.bind_some]
  rw [show prolepsislaw02_known.f = some true from rfl, Option.bind_some, if_pos (show true = true from rfl), w64 (by omega) (by omega), if_pos (show (firstZ l).1 = (firstZ l).1 from rfl), if_pos (show (firstZ l).2 = (firstZ l).2 from rfl)]
  rw [show utf_Runes.f l = some (runesZ l) by unfold utf_Runes.f; rw [if_pos ⟨all8.2 h8L, by omega⟩], Option.bind_some, Same_ok (runesZ l) h32 (by omega) 1000 (by omega), Option.bind_some, if_pos (show true = true from rfl)]
  rw [uValid_ok l h8L (by omega) 1000 (by omega), Option.bind_some, rAll_ok (runesZ l) (by omega) 1000 (by omega), Option.bind_some, flat_mend hsc, str_inj (flat_in8 hsc) h8L]
  simp
end Go.Proofs.Ytglcopljhanhmaa.Pure
