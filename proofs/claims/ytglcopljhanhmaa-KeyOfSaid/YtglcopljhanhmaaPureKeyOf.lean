/- What the law KeyOf reaches, in plain Lean. -/
import Derived.Test.YtglcopljhanhmaaPKeyOfx
import Derived.Test.YtglcopljhanhmaaKeyE
import Derived.Test.YtglcopljhanhmaaUtfB
import Derived.Test.YtglcopljhanhmaaUtfI
import Derived.OpenShut
namespace Go.Proofs.Ytglcopljhanhmaa.Pure
open Go.RowKit Go.Proofs.Ytglcopljhanhmaa.PKeyOf Go.Proofs.YtglcopljhanhmaaW.PrintWords Go.Proofs.YtglcopljhanhmaaW.PrintLast Go.Proofs.YtglcopljhanhmaaW.PrintMore
set_option linter.unusedVariables false
set_option linter.unusedSimpArgs false
theorem rAhead_l (a b : List Int) (ha : a.length ≤ 1000000) (hb : b.length ≤ 1000000) : ∀ (d i k : Nat), i + d = a.length → i ≤ b.length → 2 * d + 2 < k → prolepsisref02_ahead.l0 k a b (i : Int) = some (ahead (a.drop i) (b.drop i)) := by
  intro d
  induction d with
  | zero =>
    intro i k hi hib hk
    obtain ⟨k, rfl⟩ : ∃ m, k = m + 2 := ⟨k - 2, by omega⟩
    rw [prolepsisref02_ahead.l0, if_neg (by omega), prolepsisref02_ahead.j1, if_neg (by simp), List.drop_eq_nil_of_le (show a.length ≤ i by omega)]
    by_cases h : i < b.length
    · rw [drop_rd h]; simp [ahead]; omega
    · rw [List.drop_eq_nil_of_le (show b.length ≤ i by omega)]; simp [ahead]; omega
  | succ d ih =>
    intro i k hi hib hk
    obtain ⟨k, rfl⟩ : ∃ m, k = m + 2 := ⟨k - 2, by omega⟩
    rw [prolepsisref02_ahead.l0, if_pos (by omega), drop_rd (show i < a.length by omega)]
    by_cases h : i < b.length
    · rw [show decide ((i : Int) < (b.length : Int)) = true by simp; omega, prolepsisref02_ahead.j1, if_pos rfl, if_pos (by omega), if_pos (by omega), if_pos (by omega), w64 (by omega) (by omega), cast1, drop_rd h]
      simp only [ahead]
      by_cases e : rd a (i : Int) = rd b (i : Int)
      · rw [if_pos e, if_pos e, ih (i + 1) k (by omega) (by omega) (by omega)]
      · rw [if_neg e, if_neg e]
    · rw [show decide ((i : Int) < (b.length : Int)) = false by simp; omega, prolepsisref02_ahead.j1, if_neg (by simp), List.drop_eq_nil_of_le (show b.length ≤ i by omega)]
      simp [ahead]; omega
theorem rAhead_ok (a b : List Int) (ha : a.length ≤ 1000000) (hb : b.length ≤ 1000000) (k : Nat) (hk : 2 * a.length + 2 < k) : prolepsisref02_ahead.f k a b = some (ahead a b) := by
  unfold prolepsisref02_ahead.f
  have := rAhead_l a b ha hb a.length 0 k (by omega) (by omega) hk
  simpa using this
theorem rPre_l (p x : List Int) (hp : p.length ≤ 1000000) (hl : p.length ≤ x.length) : ∀ (d i k : Nat), i + d = p.length → d < k → prolepsisref02_within.l1 k p x (i : Int) = some (decide (p.drop i <+: x.drop i)) := by
  intro d
  induction d with
  | zero =>
    intro i k hi hk
    obtain ⟨k, rfl⟩ := kp hk
    rw [prolepsisref02_within.l1, if_neg (by omega), List.drop_eq_nil_of_le (show p.length ≤ i by omega)]
    simp
  | succ d ih =>
    intro i k hi hk
    obtain ⟨k, rfl⟩ := kp hk
    rw [prolepsisref02_within.l1, if_pos (by omega), if_pos (by omega), if_pos (by omega), w64 (by omega) (by omega), cast1, drop_rd (show i < p.length by omega), drop_rd (show i < x.length by omega)]
    by_cases e : rd x (i : Int) = rd p (i : Int)
    · rw [if_pos e, ih (i + 1) k (by omega) (by omega), e]
      congr 1
      rw [Bool.eq_iff_iff]
      simp [List.cons_prefix_cons]
    · rw [if_neg e]
      simp [List.cons_prefix_cons, Ne.symm e]

theorem scalar_mend {r : Int} (h : scalarZ r = true) : mend r = r := by unfold mend; rw [if_pos h]
/-- The search: p begins some scalar from lo to hi, all of them scalars. -/
theorem rWithin_l (p : List Int) (hp : p.length ≤ 4) (lo0 hi0 : Int) (h0 : 0 ≤ lo0) (hs : ∀ s, lo0 ≤ s → s ≤ hi0 → scalarZ s = true) : ∀ (d : Nat) (lo hi : Int) (k : Nat), lo0 ≤ lo → lo ≤ hi → hi ≤ hi0 → hi - lo < 2 ^ d → d + 20 < k →
    (∀ s, lo0 ≤ s → s < lo → ahead (enc s) p = true) → (hi = hi0 ∨ ahead (enc hi) p = false) →
    ∃ b, prolepsisref02_within.l0 k p lo hi = some b ∧ (b = true ↔ ∃ s, lo0 ≤ s ∧ s ≤ hi0 ∧ p <+: enc s) := by
  intro d
  induction d with
  | zero =>
    intro lo hi k h1 h2 h3 hd hk hlo hhi
    obtain ⟨k, rfl⟩ := kp hk
    obtain rfl : lo = hi := by simp at hd; omega
    have hsc := hs lo h1 h3
    rw [prolepsisref02_within.l0, if_neg (by omega), rBytes_ok _ k (by omega), scalar_mend hsc]
    simp only [Option.bind_some]
    have hup : ∀ s, lo0 ≤ s → s ≤ hi0 → p <+: enc s → p <+: enc lo := by
      intro s hs0 hs1 hpre
      have hge : lo ≤ s := by
        by_cases hlt : s < lo
        · have := hlo s hs0 hlt; rw [pre_ahead p _ hpre] at this; cases this
        · omega
      by_cases e : lo = s
      · rw [e]; exact hpre
      · have hsc2 := (scalar_iff s).1 (hs s hs0 hs1)
        rcases hhi with h | h
        · omega
        · exact pre_between p (enc lo) (enc s) h (enc_le lo s (by omega) hge (by omega)) hpre
    by_cases hl : ((enc lo).length : Int) < (p.length : Int)
    · rw [if_pos hl]
      refine ⟨false, rfl, by simp, ?_⟩
      rintro ⟨s, hs0, hs1, hpre⟩
      have := (hup s hs0 hs1 hpre).length_le
      omega
    · rw [if_neg hl]
      have := rPre_l p (enc lo) (by omega) (by omega) p.length 0 k (by omega) (by omega)
      refine ⟨_, by simpa using this, ?_⟩
      rw [decide_eq_true_iff]
      exact ⟨fun h => ⟨lo, h1, h3, h⟩, fun ⟨s, a, b, c⟩ => hup s a b c⟩
  | succ d ih =>
    intro lo hi k h1 h2 h3 hd hk hlo hhi
    have hsl := (scalar_iff lo).1 (hs lo h1 (by omega))
    have hsh := (scalar_iff hi).1 (hs hi (by omega) h3)
    by_cases e : lo < hi
    · obtain ⟨k, rfl⟩ := kp hk
      have hm0 : lo ≤ (lo + hi) / 2 := by omega
      have hm1 : (lo + hi) / 2 < hi := by omega
      have hsc := hs ((lo + hi) / 2) (by omega) (by omega)
      have hel := enc_len ((lo + hi) / 2)
      rw [prolepsisref02_within.l0, if_pos e, w64 (x := lo + hi) (by omega) (by omega), td (by omega), w64 (x := (lo + hi) / 2) (by omega) (by omega), rBytes_ok _ k (by omega), scalar_mend hsc]
      simp only [Option.bind_some]
      rw [rAhead_ok _ _ (by omega) (by omega) k (by omega)]
      simp only [Option.bind_some]
      have hp2 : (2 : Int) ^ (d + 1) = 2 * 2 ^ d := by rw [Int.pow_succ]; omega
      rw [hp2] at hd
      cases ha : ahead (enc ((lo + hi) / 2)) p
      · rw [if_neg (by simp)]
        exact ih lo ((lo + hi) / 2) k h1 hm0 (by omega) (by omega) (by omega) hlo (.inr ha)
      · rw [if_pos rfl, w64 (by omega) (by omega)]
        refine ih ((lo + hi) / 2 + 1) hi k (by omega) (by omega) h3 (by omega) (by omega) ?_ hhi
        intro s hs0 hs1
        have hss := (scalar_iff s).1 (hs s hs0 (by omega))
        cases hb : ahead (enc s) p
        · have := ahead_trans (enc ((lo + hi) / 2)) (enc s) p (enc_le s ((lo + hi) / 2) (by omega) (by omega) (by omega)) hb
          rw [ha] at this; cases this
        · rfl
    · obtain rfl : lo = hi := by omega
      exact ih lo lo k h1 (Int.le_refl _) h3 (by rw [Int.sub_self]; exact Int.pow_pos (by decide)) (by omega) hlo hhi
theorem rBegins_ok (p : List Int) (h8 : In8u p) (k : Nat) (hk : 60 < k) : prolepsisref02_begins.f k p = some (begZ p) := by
  unfold prolepsisref02_begins.f
  by_cases hp : (p.length : Int) ≤ 4
  · rw [if_pos hp]
    obtain ⟨b1, e1, i1⟩ := rWithin_l p (by omega) 0 55295 (by omega) (fun s a b => (scalar_iff s).2 (by omega)) 21 0 55295 k (by omega) (by omega) (by omega) (by decide) (by omega) (fun s a b => by omega) (.inl rfl)
    obtain ⟨b2, e2, i2⟩ := rWithin_l p (by omega) 57344 1114111 (by omega) (fun s a b => (scalar_iff s).2 (by omega)) 21 57344 1114111 k (by omega) (by omega) (by omega) (by decide) (by omega) (fun s a b => by omega) (.inl rfl)
    unfold prolepsisref02_within.f
    rw [e1, e2]
    simp only [Option.bind_some]
    have key : begZ p = (b1 || b2) := by
      rw [Bool.eq_iff_iff, Bool.or_eq_true, i1, i2]
      constructor
      · intro h
        obtain ⟨s, hs, hpre⟩ := begins_enc p h8 h
        rcases (scalar_iff s).1 hs with a | a
        · exact .inl ⟨s, a.1, a.2, hpre⟩
        · exact .inr ⟨s, a.1, a.2, hpre⟩
      · rintro (⟨s, a, b, hpre⟩ | ⟨s, a, b, hpre⟩) <;> exact enc_begins s ((scalar_iff s).2 (by omega)) p hpre
    rw [key]
    cases b1 <;> simp
  · rw [if_neg hp]
    match p, hp with
    | [], h => simp at h
    | [_], h => simp at h
    | [_, _], h => simp at h
    | [_, _, _], h => simp at h
    | [_, _, _, _], h => simp at h
    | _ :: _ :: _ :: _ :: _ :: _, _ => rfl
theorem takeS (l : List Int) (n : Nat) (h : n < l.length) : l.take (wrap64 ((n : Int) + 1)).toNat = l.take (n + 1) ∧ wrap64 ((n : Int) + 1) = ((n + 1 : Nat) : Int) ∨ 9223372036854775807 ≤ n := by
  by_cases hn : 9223372036854775807 ≤ n
  · exact .inr hn
  · rw [w64 (by omega) (by omega)]; exact .inl ⟨by rw [show ((n : Int) + 1).toNat = n + 1 by omega], by omega⟩
theorem rScal (l : List Int) (h8 : In8u l) (hne : l ≠ []) : prolepsisref02_scalar.f l = some (scalV l, scalB l) := by
  unfold prolepsisref02_scalar.f
  rw [if_pos ⟨hne, List.all_eq_true.2 (fun x hx => decide_eq_true (h8 x hx))⟩]
theorem rF_end (k : Nat) (l : List Int) (n : Nat) (h : n = l.length) : prolepsisref02_First.l0 (k + 2) l (n : Int) = some (0, 0) := by
  rw [prolepsisref02_First.l0, if_neg (by omega), prolepsisref02_First.j1, if_neg (by simp), if_pos (by omega)]
theorem rF_stop (k : Nat) (l : List Int) (n : Nat) (h8 : In8u l) (h : n < l.length) (hl : l.length ≤ 1000000) (hk : 60 ≤ k) (hb : begZ (l.take (n + 1)) = false) : prolepsisref02_First.l0 (k + 2) l (n : Int) = some (65533, if n = 0 then 1 else (n : Int)) := by
  obtain ⟨e1, e2⟩ := (takeS l n h).resolve_right (by omega)
  rw [prolepsisref02_First.l0, if_pos (by omega), e1, e2, if_pos (by omega), if_pos (by omega), rBegins_ok (l.take (n + 1)) (fun x hx => h8 x (List.mem_of_mem_take hx)) (k + 1) (by omega), hb]
  simp only [Option.bind_some]
  rw [prolepsisref02_First.j1, if_neg (by simp), if_neg (by omega)]
  by_cases e : n = 0
  · rw [if_pos (by omega), if_pos e]
  · rw [if_neg (by omega), if_neg e]
theorem rF_j1 (k : Nat) (l : List Int) (n : Nat) (h8 : In8u l) (h : n < l.length) (hl : l.length ≤ 1000000) : prolepsisref02_First.j1 (k + 1) l (n : Int) true = (if scalB (l.take (n + 1)) = true then some (scalV (l.take (n + 1)), ((n + 1 : Nat) : Int)) else prolepsisref02_First.l0 k l ((n + 1 : Nat) : Int)) := by
  obtain ⟨e1, e2⟩ := (takeS l n h).resolve_right (by omega)
  have hs := rScal (l.take (n + 1)) (fun x hx => h8 x (List.mem_of_mem_take hx)) (by intro e; rw [List.take_eq_nil_iff] at e; rcases e with e | e; exact absurd e (by omega); rw [e] at h; exact absurd h (by simp))
  have g1 : (0 : Int) ≤ ((n + 1 : Nat) : Int) := by omega
  have g2 : ((n + 1 : Nat) : Int) ≤ (l.length : Int) := by omega
  rw [prolepsisref02_First.j1, if_pos (show true = true from rfl), e1, e2, if_pos g1, if_pos g2, hs, Option.bind_some]
theorem rF_go (k : Nat) (l : List Int) (n : Nat) (h8 : In8u l) (h : n < l.length) (hl : l.length ≤ 1000000) (hk : 60 ≤ k) (hb : begZ (l.take (n + 1)) = true) : prolepsisref02_First.l0 (k + 2) l (n : Int) = (if scalB (l.take (n + 1)) = true then some (scalV (l.take (n + 1)), ((n + 1 : Nat) : Int)) else prolepsisref02_First.l0 k l ((n + 1 : Nat) : Int)) := by
  obtain ⟨e1, e2⟩ := (takeS l n h).resolve_right (by omega)
  have g0 : (n : Int) < (l.length : Int) := by omega
  have g1 : (0 : Int) ≤ ((n + 1 : Nat) : Int) := by omega
  have g2 : ((n + 1 : Nat) : Int) ≤ (l.length : Int) := by omega
  have hs := rBegins_ok (l.take (n + 1)) (fun x hx => h8 x (List.mem_of_mem_take hx)) (k + 1) (by omega)
  rw [← rF_j1 k l n h8 h hl, prolepsisref02_First.l0, if_pos g0, e1, e2, if_pos g1, if_pos g2, hs, hb, Option.bind_some]
theorem beg1 (a : Int) (h0 : 0 ≤ a) : begZ [a] = decide (a < 128 ∨ 194 ≤ a ∧ a ≤ 244) := by simp [begZ]
def firstZ (l : List Int) : Int × Int := if (parseZ l).2.2 = true then (0, 0) else ((parseZ l).1, (parseZ l).2.1)
theorem rFirst_ok (l : List Int) (h8 : In8u l) (hl : l.length ≤ 1000000) (k : Nat) (hk : 80 ≤ k) : prolepsisref02_First.f k l = some (firstZ l) := by
  obtain ⟨k, rfl⟩ : ∃ m, k = m + 10 := ⟨k - 10, by omega⟩
  unfold prolepsisref02_First.f firstZ
  cases l with
  | nil => rfl
  | cons a t =>
    have ha := h8 a (by simp)
    have hl0 : 0 < (a :: t).length := by simp
    obtain ⟨p, hp⟩ : ∃ p, parseZ (a :: t) = p := ⟨_, rfl⟩
    rw [hp]
    simp only [parseZ] at hp
    rw [show prolepsisref02_First.l0 (k + 10) (a :: t) 0 = prolepsisref02_First.l0 (k + 8 + 2) (a :: t) ((0 : Nat) : Int) from rfl]
    have tk1 : (a :: t).take (0 + 1) = [a] := rfl
    by_cases h1 : a < 128
    · rw [if_pos h1] at hp
      rw [rF_go (k + 8) (a :: t) 0 h8 hl0 hl (by omega) (by rw [tk1, beg1 _ ha.1]; simp [h1]), tk1, if_pos (by rw [scal1 ha]; simp [h1]), ← hp]
      rfl
    rw [if_neg h1] at hp
    by_cases h2 : a < 194 ∨ 244 < a
    · rw [if_pos h2] at hp
      rw [rF_stop (k + 8) (a :: t) 0 h8 hl0 hl (by omega) (by rw [tk1, beg1 _ ha.1, decide_eq_false_iff_not]; omega), ← hp]
      rfl
    rw [if_neg h2] at hp
    rw [rF_go (k + 8) (a :: t) 0 h8 hl0 hl (by omega) (by rw [tk1, beg1 _ ha.1, decide_eq_true_iff]; omega), tk1, if_neg (by rw [scal1 ha]; simp; omega)]
    cases t with
    | nil => rw [← hp, rF_end (k + 6) [a] (0 + 1) rfl]; rfl
    | cons b t =>
      dsimp only at hp
      have tk2 : (a :: b :: t).take (0 + 1 + 1) = [a, b] := rfl
      have hl1 : 0 + 1 < (a :: b :: t).length := by simp
      by_cases h3 : two a b = true
      · rw [h3, if_neg (by simp)] at hp
        rw [rF_go (k + 6) (a :: b :: t) (0 + 1) h8 hl1 hl (by omega) (by rw [tk2]; exact h3), tk2]
        by_cases h4 : a < 224
        · rw [if_pos h4] at hp
          rw [if_pos (by rw [scal2 h3]; simp [h4]), ← hp, show scalV [a, b] = (a - 192) * 64 + b - 128 from rfl, show (a - 192) * 64 + (b - 128) = (a - 192) * 64 + b - 128 by omega]
          rfl
        rw [if_neg h4] at hp
        rw [if_neg (by rw [scal2 h3]; simp [h4])]
        cases t with
        | nil => rw [← hp, rF_end (k + 4) [a, b] (0 + 1 + 1) rfl]; rfl
        | cons c t =>
          dsimp only at hp
          have tk3 : (a :: b :: c :: t).take (0 + 1 + 1 + 1) = [a, b, c] := rfl
          have hl2 : 0 + 1 + 1 < (a :: b :: c :: t).length := by simp
          by_cases h5 : cont c = true
          · rw [h5, if_neg (by simp)] at hp
            rw [rF_go (k + 4) (a :: b :: c :: t) (0 + 1 + 1) h8 hl2 hl (by omega) (by rw [tk3]; simp [begZ, h3, h5]; omega), tk3]
            by_cases h6 : a < 240
            · rw [if_pos h6] at hp
              rw [if_pos (by rw [scal3 h3 (by omega) h5]; simp [h6]), ← hp, show scalV [a, b, c] = (a - 224) * 4096 + (b - 128) * 64 + c - 128 from rfl, show (a - 224) * 4096 + (b - 128) * 64 + (c - 128) = (a - 224) * 4096 + (b - 128) * 64 + c - 128 by omega]
              rfl
            rw [if_neg h6] at hp
            rw [if_neg (by rw [scal3 h3 (by omega) h5]; simp [h6])]
            cases t with
            | nil => rw [← hp, rF_end (k + 2) [a, b, c] (0 + 1 + 1 + 1) rfl]; rfl
            | cons d t =>
              dsimp only at hp
              have tk4 : (a :: b :: c :: d :: t).take (0 + 1 + 1 + 1 + 1) = [a, b, c, d] := rfl
              have hl3 : 0 + 1 + 1 + 1 < (a :: b :: c :: d :: t).length := by simp
              by_cases h7 : cont d = true
              · rw [h7, if_neg (by simp)] at hp
                rw [rF_go (k + 2) (a :: b :: c :: d :: t) (0 + 1 + 1 + 1) h8 hl3 hl (by omega) (by rw [tk4]; simp [begZ, h3, h5, h7]; omega), tk4, if_pos (scal4 h3 (by omega) h5 h7), ← hp, show scalV [a, b, c, d] = (a - 240) * 262144 + (b - 128) * 4096 + (c - 128) * 64 + d - 128 from rfl, show (a - 240) * 262144 + (b - 128) * 4096 + (c - 128) * 64 + (d - 128) = (a - 240) * 262144 + (b - 128) * 4096 + (c - 128) * 64 + d - 128 by omega]
                rfl
              · rw [Bool.eq_false_iff.2 h7, if_pos rfl] at hp
                rw [rF_stop (k + 2) (a :: b :: c :: d :: t) (0 + 1 + 1 + 1) h8 hl3 hl (by omega) (by rw [tk4]; simp [begZ, h7]), ← hp]
                rfl
          · rw [Bool.eq_false_iff.2 h5, if_pos rfl] at hp
            rw [rF_stop (k + 4) (a :: b :: c :: t) (0 + 1 + 1) h8 hl2 hl (by omega) (by rw [tk3]; simp [begZ, h5]), ← hp]
            rfl
      · rw [Bool.eq_false_iff.2 h3, if_pos rfl] at hp
        rw [rF_stop (k + 6) (a :: b :: t) (0 + 1) h8 hl1 hl (by omega) (by rw [tk2]; exact Bool.eq_false_iff.2 h3), ← hp]
        rfl
/-- What is cut: the scalars, and what is held. -/
def cutN : Nat → List Int → List Int × List Int
  | 0, l => ([], l)
  | _, [] => ([], [])
  | n + 1, l => if (parseZ l).2.2 = true then ([], l) else ((parseZ l).1 :: (cutN n (l.drop (parseZ l).2.1.toNat)).1, (cutN n (l.drop (parseZ l).2.1.toNat)).2)
theorem cut_runes : ∀ (n : Nat) (l : List Int), l.length ≤ n → runesZ l = (cutN n l).1 ++ (if (cutN n l).2 = [] then [] else [65533]) := by
  intro n
  induction n with
  | zero => intro l h; rw [List.eq_nil_of_length_eq_zero (Nat.le_zero.1 h)]; rfl
  | succ n ih =>
    intro l hl
    match l with
    | [] => rfl
    | a :: t =>
      rw [runesZ_cons, cutN]
      · by_cases hb : (parseZ (a :: t)).2.2 = true
        · rw [if_pos hb, if_pos hb]; rfl
        · have hp := parseZ_pos a t (Bool.eq_false_iff.2 hb)
          rw [if_neg hb, if_neg hb, ih _ (by rw [List.length_drop]; omega)]
          rfl
      · simp
theorem cut_len : ∀ (n : Nat) (l : List Int), (cutN n l).1.length ≤ n := by
  intro n
  induction n with
  | zero => intro l; simp [cutN]
  | succ n ih =>
    intro l
    match l with
    | [] => simp [cutN]
    | a :: t =>
      rw [cutN]
      · split
        · simp
        · have := ih ((a :: t).drop (parseZ (a :: t)).2.1.toNat); simp; exact this
      · simp
theorem rCut_l : ∀ (n : Nat) (l out : List Int) (k : Nat), l.length ≤ n → In8u l → out.length + n ≤ 1000000 → n + 90 ≤ k → prolepsisref02_Cut.l0 k l out = some (out ++ (cutN n l).1, (cutN n l).2) := by
  intro n
  induction n with
  | zero =>
    intro l out k hl h8 ho hk
    obtain ⟨k, rfl⟩ : ∃ m, k = m + 1 := ⟨k - 1, by omega⟩
    rw [List.eq_nil_of_length_eq_zero (Nat.le_zero.1 hl), prolepsisref02_Cut.l0, if_neg (by simp)]
    simp [cutN]
  | succ n ih =>
    intro l out k hl h8 ho hk
    obtain ⟨k, rfl⟩ : ∃ m, k = m + 1 := ⟨k - 1, by omega⟩
    match l with
    | [] => rw [prolepsisref02_Cut.l0, if_neg (by simp)]; simp [cutN]
    | a :: t =>
      rw [prolepsisref02_Cut.l0, if_pos (by simp only [List.length_cons]; omega), rFirst_ok _ h8 (by omega) k (by omega), cutN]
      · simp only [Option.bind_some]
        unfold firstZ
        by_cases hb : (parseZ (a :: t)).2.2 = true
        · rw [if_pos hb, if_pos hb, if_pos rfl, List.append_nil]
        · have hp := parseZ_pos a t (Bool.eq_false_iff.2 hb)
          rw [if_neg hb, if_neg hb, if_neg (by dsimp only; omega), if_pos (by omega), if_pos (by dsimp only; omega), if_pos (by dsimp only; omega), ih _ _ k (by rw [List.length_drop]; omega) (fun x hx => h8 x (List.mem_of_mem_drop hx)) (by simp only [List.length_append, List.length_cons, List.length_nil]; omega) (by omega)]
          rw [List.append_assoc, List.singleton_append]
      · simp
theorem rCut_ok (l : List Int) (h8 : In8u l) (hl : l.length ≤ 1000000) (k : Nat) (hk : l.length + 90 ≤ k) : prolepsisref02_Cut.f k l = some (cutN l.length l) := by
  unfold prolepsisref02_Cut.f
  rw [rCut_l l.length l [] k (Nat.le_refl _) h8 (by simp; omega) hk]
  rfl
theorem mend_scalar (r : Int) : scalarZ (mend r) = true := by unfold mend; split <;> simp_all; decide
theorem encs_len (l : List Int) : (l.flatMap enc).length ≤ 4 * l.length := by
  induction l with
  | nil => simp
  | cons a t ih => rw [List.flatMap_cons, List.length_append, List.length_cons]; have := enc_len a; omega
theorem flat_in8 {l : List Int} (h : ∀ x ∈ l, scalarZ x = true) : In8u (l.flatMap enc) := by
  intro x hx
  obtain ⟨a, ha, hx⟩ := List.mem_flatMap.1 hx
  exact enc_in8 (h a ha) x hx
theorem or128f : ∀ x : Fin 256, Go.bits .or .u8 128 (Go.bits .and .u8 ((x.val : Nat) : Int) 63) = 128 + ((x.val % 64 : Nat) : Int) := by decide +kernel
theorem or240f : ∀ x : Fin 8, Go.bits .or .u8 240 ((x.val : Nat) : Int) = 240 + ((x.val : Nat) : Int) := by decide +kernel
theorem or224f : ∀ x : Fin 16, Go.bits .or .u8 224 ((x.val : Nat) : Int) = 224 + ((x.val : Nat) : Int) := by decide +kernel
theorem or192f : ∀ x : Fin 32, Go.bits .or .u8 192 ((x.val : Nat) : Int) = 192 + ((x.val : Nat) : Int) := by decide +kernel
theorem or0f : ∀ x : Fin 128, Go.bits .or .u8 0 ((x.val : Nat) : Int) = ((x.val : Nat) : Int) := by decide +kernel
theorem or128m (y : Int) : Go.bits .or .u8 128 (Go.bits .and .u8 (y % 256) 63) = 128 + y % 64 := by
  have := or128f ⟨(y % 256).toNat, by omega⟩
  simp only at this
  rw [show (((y % 256).toNat : Nat) : Int) = y % 256 by omega] at this
  rw [this]; omega
theorem or240 {y : Int} (h : 0 ≤ y ∧ y < 8) : Go.bits .or .u8 240 (y % 256) = 240 + y := by
  have := or240f ⟨y.toNat, by omega⟩
  simp only at this
  rw [show ((y.toNat : Nat) : Int) = y by omega] at this
  rw [show y % 256 = y by omega, this]
theorem or224 {y : Int} (h : 0 ≤ y ∧ y < 16) : Go.bits .or .u8 224 (y % 256) = 224 + y := by
  have := or224f ⟨y.toNat, by omega⟩
  simp only at this
  rw [show ((y.toNat : Nat) : Int) = y by omega] at this
  rw [show y % 256 = y by omega, this]
theorem or192 {y : Int} (h : 0 ≤ y ∧ y < 32) : Go.bits .or .u8 192 (y % 256) = 192 + y := by
  have := or192f ⟨y.toNat, by omega⟩
  simp only at this
  rw [show ((y.toNat : Nat) : Int) = y by omega] at this
  rw [show y % 256 = y by omega, this]
theorem or0 {y : Int} (h : 0 ≤ y ∧ y < 128) : Go.bits .or .u8 0 (y % 256) = y := by
  have := or0f ⟨y.toNat, by omega⟩
  simp only at this
  rw [show ((y.toNat : Nat) : Int) = y by omega] at this
  rw [show y % 256 = y by omega, this]
theorem shr18 (x : Int) : shr .i32 x 18 = x / 262144 := by unfold shr; rfl
theorem shr12 (x : Int) : shr .i32 x 12 = x / 4096 := by unfold shr; rfl
theorem shr6 (x : Int) : shr .i32 x 6 = x / 64 := by unfold shr; rfl
theorem shr0 (x : Int) : shr .i32 x 0 = x := by unfold shr; show x / 1 = x; omega
theorem uScalar (r : Int) : utf_Scalar.f r = some (scalarZ r) := by
  unfold utf_Scalar.f scalarZ
  by_cases a : 0 ≤ r <;> by_cases b : r ≤ 1114111 <;> by_cases c : r < 55296 <;> by_cases d : 57343 < r <;> simp [*] <;> omega
theorem uBytes_j1 (l : List Int) (n i : Int) (out : List Int) (x : Int) (h0 : 0 ≤ x) (h1 : x ≤ 1114111) (ho : out.length ≤ 1000000) (k : Nat) : utf_Bytes.j1 (k + 6) out x l n i = utf_Bytes.l0 (k + if x < 128 then 3 else if x < 2048 then 2 else if x < 65536 then 1 else 0) (out ++ enc x) l n (wrap64 (i + 1)) := by
  rw [utf_Bytes.j1]
  by_cases a : x < 128
  · rw [if_neg (by omega), if_neg (by omega), if_neg (by omega), utf_Bytes.j2, if_pos (by omega), if_pos (by omega), shr0, or0 (by omega), utf_Bytes.l1, if_neg (by omega), enc1 a, if_pos a]
  · by_cases b : x < 2048
    · rw [if_neg (by omega), if_neg (by omega), if_pos (by omega), utf_Bytes.j2, if_pos (by omega), if_pos (by omega), shr6, or192 (by omega), utf_Bytes.l1, if_pos (by omega), show wrap64 (6 - 6) = 0 by rw [w64 (by omega) (by omega)]; rfl, if_pos (by omega), if_pos (by simp; omega), shr0, or128m, utf_Bytes.l1, if_neg (by omega), enc2 (by omega) b, if_neg a, if_pos b]
      simp
    · by_cases c : x < 65536
      · rw [if_neg (by omega), if_pos (by omega), utf_Bytes.j2, if_pos (by omega), if_pos (by omega), shr12, or224 (by omega), utf_Bytes.l1, if_pos (by omega), show wrap64 (12 - 6) = 6 by rw [w64 (by omega) (by omega)]; rfl, if_pos (by omega), if_pos (by simp; omega), shr6, or128m,
          utf_Bytes.l1, if_pos (by omega), show wrap64 (6 - 6) = 0 by rw [w64 (by omega) (by omega)]; rfl, if_pos (by omega), if_pos (by simp; omega), shr0, or128m, utf_Bytes.l1, if_neg (by omega), enc3 (by omega) c, if_neg a, if_neg b, if_pos c]
        simp
      · rw [if_pos (by omega), utf_Bytes.j2, if_pos (by omega), if_pos (by omega), shr18, or240 (by omega), utf_Bytes.l1, if_pos (by omega), show wrap64 (18 - 6) = 12 by rw [w64 (by omega) (by omega)]; rfl, if_pos (by omega), if_pos (by simp; omega), shr12, or128m,
          utf_Bytes.l1, if_pos (by omega), show wrap64 (12 - 6) = 6 by rw [w64 (by omega) (by omega)]; rfl, if_pos (by omega), if_pos (by simp; omega), shr6, or128m,
          utf_Bytes.l1, if_pos (by omega), show wrap64 (6 - 6) = 0 by rw [w64 (by omega) (by omega)]; rfl, if_pos (by omega), if_pos (by simp; omega), shr0, or128m, utf_Bytes.l1, if_neg (by omega), enc4 (by omega), if_neg a, if_neg b, if_neg c]
        simp
theorem uBytes_l (l : List Int) (hl : l.length ≤ 100000) : ∀ (d i k : Nat) (out : List Int), i + d = l.length → out.length ≤ 4 * i → 7 * d + 2 ≤ k → utf_Bytes.l0 k out l (l.length : Int) (i : Int) = some (out ++ (l.drop i).flatMap (fun r => enc (mend r))) := by
  intro d
  induction d with
  | zero =>
    intro i k out hi ho hk
    obtain ⟨k, rfl⟩ : ∃ m, k = m + 1 := ⟨k - 1, by omega⟩
    rw [utf_Bytes.l0, if_neg (by omega), List.drop_eq_nil_of_le (by omega)]
    simp
  | succ d ih =>
    intro i k out hi ho hk
    obtain ⟨k, rfl⟩ : ∃ m, k = m + 7 := ⟨k - 7, by omega⟩
    have he := enc_len (mend (rd l (i : Int)))
    have hm := (scalar_iff _).1 (mend_scalar (rd l (i : Int)))
    have hb := uBytes_j1 l (l.length : Int) (i : Int) out (mend (rd l (i : Int))) (by omega) (by omega) (by omega) k
    have hif : (if mend (rd l (i : Int)) < 128 then 3 else if mend (rd l (i : Int)) < 2048 then 2 else if mend (rd l (i : Int)) < 65536 then 1 else 0) ≥ (0 : Nat) := Nat.zero_le _
    rw [w64 (by omega) (by omega), cast1, ih (i + 1) _ _ (by omega) (by rw [List.length_append]; omega) (by omega)] at hb
    rw [utf_Bytes.l0, if_pos (by omega), if_pos (by omega), if_pos (by omega), uScalar]
    simp only [Option.bind_some]
    have hs : (if scalarZ (rd l (i : Int)) = true then utf_Bytes.j1 (k + 6) out (rd l (i : Int)) l (l.length : Int) (i : Int) else utf_Bytes.j1 (k + 6) out 65533 l (l.length : Int) (i : Int)) = utf_Bytes.j1 (k + 6) out (mend (rd l (i : Int))) l (l.length : Int) (i : Int) := by
      unfold mend; split <;> rfl
    rw [hs, hb, drop_rd (show i < l.length by omega), List.flatMap_cons, List.append_assoc]
theorem uBytes_ok (l : List Int) (hl : l.length ≤ 100000) (k : Nat) (hk : 7 * l.length + 2 ≤ k) : utf_Bytes.f k l = some (l.flatMap (fun r => enc (mend r))) := by
  unfold utf_Bytes.f
  have := uBytes_l l hl l.length 0 k [] (by omega) (by simp) hk
  simpa using this
theorem flat_map (l : List Int) : l.flatMap (fun r => enc (mend r)) = (l.map mend).flatMap enc := by
  induction l with
  | nil => rfl
  | cons a t ih => rw [List.flatMap_cons, List.map_cons, List.flatMap_cons, ih]
theorem mends_scalar (l : List Int) : ∀ x ∈ l.map mend, scalarZ x = true := by
  intro x hx
  obtain ⟨a, -, rfl⟩ := List.mem_map.1 hx
  exact mend_scalar a
theorem mends_id {l : List Int} (h : ∀ x ∈ l, scalarZ x = true) : l.map mend = l := by
  induction l with
  | nil => rfl
  | cons a t ih => rw [List.map_cons, scalar_mend (h a (by simp)), ih (fun x hx => h x (by simp [hx]))]
theorem rScalar (r : Int) : prolepsisref02_Scalar.f r = some (scalarZ r) := by
  unfold prolepsisref02_Scalar.f scalarZ
  by_cases a : 0 ≤ r <;> by_cases b : r ≤ 1114111 <;> by_cases c : r < 55296 <;> by_cases d : 57343 < r <;> simp [*] <;> omega
def flat (p : List (Int × Int)) : List Int := p.flatMap fun x => [x.1, x.2]
theorem flat_len (p : List (Int × Int)) : (flat p).length = 2 * p.length := by
  induction p with
  | nil => rfl
  | cons x t ih => simp [flat] at *; omega
theorem flat_rd (p : List (Int × Int)) : ∀ j, j < p.length → rd (flat p) ((2 * j : Nat) : Int) = (p.getD j (0, 0)).1 ∧ rd (flat p) ((2 * j + 1 : Nat) : Int) = (p.getD j (0, 0)).2 := by
  induction p with
  | nil => intro j h; simp at h
  | cons x t ih =>
    intro j h
    match j with
    | 0 => exact ⟨rfl, rfl⟩
    | j + 1 =>
      have := ih j (by simpa using h)
      have e : ∀ i : Nat, rd (flat (x :: t)) ((i + 2 : Nat) : Int) = rd (flat t) (i : Int) := fun i => by unfold rd; rw [Int.toNat_natCast, Int.toNat_natCast]; rfl
      rw [show 2 * (j + 1) = 2 * j + 2 by omega, show 2 * j + 2 + 1 = (2 * j + 1) + 2 by omega, e, e, this.1, this.2]
      exact ⟨rfl, rfl⟩
theorem in_l (r : Int) (p : List (Int × Int)) (hp : p.length ≤ 1000) : ∀ (d j k : Nat), j + d = p.length → d < k → prolepsisref03_in.l0 k r (flat p) ((2 * j : Nat) : Int) = some (inL r (p.drop j)) := by
  intro d
  induction d with
  | zero =>
    intro j k hj hk
    obtain ⟨k, rfl⟩ := kp hk
    have hf := flat_len p
    rw [prolepsisref03_in.l0, w64 (by omega) (by omega), if_neg (by omega), List.drop_eq_nil_of_le (by omega)]
    rfl
  | succ d ih =>
    intro j k hj hk
    obtain ⟨k, rfl⟩ := kp hk
    have hf := flat_len p
    obtain ⟨e1, e2⟩ := flat_rd p j (by omega)
    have hd : p.drop j = p.getD j (0, 0) :: p.drop (j + 1) := by rw [List.drop_eq_getElem_cons (show j < p.length by omega)]; simp [List.getD_eq_getElem?_getD, show j < p.length by omega]
    have ih' := ih (j + 1) k (by omega) (by omega)
    have h1 : ((2 * j : Nat) : Int) + 1 = ((2 * j + 1 : Nat) : Int) := by omega
    have h2 : ((2 * j : Nat) : Int) + 2 = ((2 * (j + 1) : Nat) : Int) := by omega
    rw [prolepsisref03_in.l0, h1, h2, w64 (x := ((2 * j + 1 : Nat) : Int)) (by omega) (by omega), w64 (x := ((2 * (j + 1) : Nat) : Int)) (by omega) (by omega), e1, e2, ih', hd,
      if_pos (by omega), if_pos (show (0 : Int) ≤ ((2 * j : Nat) : Int) by omega), if_pos (by omega), if_pos (show (0 : Int) ≤ ((2 * j + 1 : Nat) : Int) by omega)]
    by_cases a : (p.getD j (0, 0)).1 ≤ r <;> by_cases b : r ≤ (p.getD j (0, 0)).2 <;> simp only [List.getD_eq_getElem?_getD] at a b <;> simp [inL, a, b]
theorem in_ok (r : Int) (p : List (Int × Int)) (l : List Int) (h : l = flat p) (k : Nat) (hk : p.length < k) (hp : p.length ≤ 1000) : prolepsisref03_in.f k r l = some (inL r p) := by
  subst h
  unfold prolepsisref03_in.f
  have := in_l r p hp p.length 0 k (by omega) hk
  simpa using this
theorem rOf (r : Int) (k : Nat) (hk : 20 ≤ k) : prolepsisref03_Of.f k r = some (wOf r) := by
  obtain ⟨k, rfl⟩ : ∃ m, k = m + 1 := ⟨k - 1, by omega⟩
  have j1 : prolepsisref03_Of.j0 (k + 1) r true = some (-1) := by rw [prolepsisref03_Of.j0, if_pos rfl]
  have j2 : prolepsisref03_Of.j0 (k + 1) r false = some (if inL r markL = true then 0 else if inL r wideL = true then 2 else 1) := by
    rw [prolepsisref03_Of.j0, if_neg (by simp), in_ok r markL [768, 879, 8203, 8207, 8400, 8447, 65024, 65039, 65056, 65071] rfl k (by simp [markL]; omega) (by simp [markL]), in_ok r wideL [4352, 4447, 11904, 12350, 12353, 42191, 44032, 55203, 63744, 64255, 65072, 65135, 65280, 65376, 65504, 65510, 127744, 128591, 129280, 129535, 131072, 262141] rfl k (by simp [wideL]; omega) (by simp [wideL])]
    simp only [Option.bind_some]
    split <;> (try split) <;> rfl
  unfold prolepsisref03_Of.f wOf
  by_cases a : r < 32
  · rw [if_pos a, if_pos (.inl a), j1]
  · rw [if_neg a, in_ok r [(127, 159)] [127, 159] rfl (k + 1) (by simp; omega) (by simp)]
    simp only [Option.bind_some]
    by_cases b : 127 ≤ r ∧ r ≤ 159
    · rw [if_pos (by simp [inL, b]), if_pos (.inr (.inl b)), j1]
    · rw [if_neg (by simp only [inL, List.any_cons, List.any_nil, Bool.or_false, Bool.and_eq_true, decide_eq_true_eq]; exact b), rScalar]
      simp only [Option.bind_some]
      cases hs : scalarZ r
      · rw [if_pos (.inr (.inr rfl))]; exact j1
      · rw [if_neg (by simp; omega)]; exact j2
theorem in32 {x : Int} (h : (Lit.int .i32 x).wf = true) : -2147483648 ≤ x ∧ x ≤ 2147483647 := by have := bounds_i32 h; omega
theorem mn_len {n : Nat} {c : Int} (hc : 0 ≤ c) : 0 ≤ mn (n : Int) c ∧ mn (n : Int) c ≤ n ∧ mn (n : Int) c ≤ c := by unfold mn; split <;> omega
theorem str_eq {a b : List Int} (ha : In8u a) (hb : In8u b) : (strOfNums a).toList = (strOfNums b).toList ↔ a = b := by
  have := str_inj ha hb
  constructor
  · intro h
    rw [h] at this
    simp at this
    exact this
  · intro h
    rw [h]
theorem text_in8 (x : Int) : In8u (textK x) := by
  intro y hy
  unfold textK at hy
  repeat' split at hy
  all_goals (simp at hy; try omega)
theorem text_f (x : Int) (hx : 2 ≤ x ∧ x ≤ 7) : prolepsisref22_text.f x = some (strOfNums (textK x)) := by
  have : x = 2 ∨ x = 3 ∨ x = 4 ∨ x = 5 ∨ x = 6 ∨ x = 7 := by omega
  rcases this with rfl | rfl | rfl | rfl | rfl | rfl <;> rfl
theorem of_step (B : List Int) (h8 : In8u B) (x : Int) (hx : 2 ≤ x ∧ x ≤ 7) (k : Nat) : prolepsisref22_Of.l0 (k + 1) B x = if B = textK x then some (x, 0) else prolepsisref22_Of.l0 k B (x + 1) := by
  rw [prolepsisref22_Of.l0, if_pos (by omega), text_f x hx, Option.bind_some, w64 (by omega) (by omega)]
  by_cases h : B = textK x
  · rw [if_pos h, if_pos ((str_eq h8 (text_in8 x)).2 h)]
  · rw [if_neg h, if_neg (fun e => h ((str_eq h8 (text_in8 x)).1 e))]
theorem cut_some {m : Nat} {l : List Int} (h : l.length ≤ m) (hne : l ≠ []) : (cutN m l).1 ≠ [] ∨ (cutN m l).2 ≠ [] := by
  match m, l, hne with
  | 0, a :: t, _ => simp at h
  | m + 1, a :: t, _ =>
    rw [cutN]
    · by_cases hb : (parseZ (a :: t)).2.2 = true
      · rw [if_pos hb]; exact .inr (by simp)
      · rw [if_neg hb]; exact .inl (by simp)
    · simp
theorem of_last (B : List Int) (h8 : In8u B) (hl : B.length ≤ 100) (hz : kindZ B = 0) (k : Nat) (hk : 300 ≤ k) : prolepsisref22_Of.l0 (k + 1) B 8 = some (ofK B) := by
  rw [prolepsisref22_Of.l0, if_neg (by decide), rCut_ok B h8 (by omega) k (by omega), Option.bind_some]
  have hof : ofK B = if (firstK B).2 = 0 ∨ (firstK B).2 ≠ (B.length : Int) ∨ validK B = false ∨ plainK (firstK B).1 = false then (8, 0) else (1, (firstK B).1) := by
    unfold ofK
    rw [if_neg (by simpa using hz)]
  rw [hof]
  clear hof hz
  match B with
  | [] => rfl
  | a :: t =>
    have hcut : cutN (a :: t).length (a :: t) = if (parseZ (a :: t)).2.2 = true then ([], a :: t) else ((parseZ (a :: t)).1 :: (cutN t.length ((a :: t).drop (parseZ (a :: t)).2.1.toNat)).1, (cutN t.length ((a :: t).drop (parseZ (a :: t)).2.1.toNat)).2) := by
      rw [List.length_cons, cutN]
      simp
    have hfk : firstK (a :: t) = ((parseZ (a :: t)).1, (parseZ (a :: t)).2.1) := by unfold firstK; rw [if_neg (by simp)]
    rw [hfk, hcut]
    clear hcut
    dsimp only
    by_cases hb : (parseZ (a :: t)).2.2 = true
    · rw [if_pos hb, parse_more _ hb]
      rfl
    · have hb' := Bool.eq_false_iff.2 hb
      have hp := parseZ_pos a t hb'
      rw [if_neg hb]
      have hru : runesZ (a :: t) = (parseZ (a :: t)).1 :: runesZ ((a :: t).drop (parseZ (a :: t)).2.1.toNat) := by rw [runesZ_cons, if_neg hb]
      have hsc := runes_scalar _ (a :: t) (Nat.le_refl _) h8 (parseZ (a :: t)).1 (by rw [hru]; simp)
      generalize (parseZ (a :: t)).1 = r at *
      generalize (parseZ (a :: t)).2.1 = n at *
      dsimp only
      have hdl : ((a :: t).drop n.toNat).length = (a :: t).length - n.toNat := List.length_drop
      by_cases hn : n = ((a :: t).length : Int)
      · have hd : (a :: t).drop n.toNat = [] := List.eq_nil_of_length_eq_zero (by omega)
        have hc0 : cutN t.length ([] : List Int) = ([], []) := by cases t.length <;> rfl
        rw [hd, hc0]
        have hv : validK (a :: t) = decide (enc r = a :: t) := by
          unfold validK
          rw [hru, hd, runesZ_nil]
          simp
        rw [hv]
        have e1 : (([r] : List Int).length : Int) = 1 := rfl
        dsimp only
        rw [if_pos e1, if_pos (show ((([] : List Int).length : Nat) : Int) = 0 from rfl), if_pos (show (0 : Int) < (([r] : List Int).length : Int) by simp), show rd [r] 0 = r from rfl, rOf r k (by omega), Option.bind_some]
        by_cases hw : wOf r = 1
        · have hpl : plainK r = true := by unfold plainK; rw [hw]; rfl
          rw [if_pos hw, rBytes_ok r k (by omega), Option.bind_some]
          have hme : mend r = r := by unfold mend; rw [if_pos hsc]
          rw [hme]
          by_cases he : enc r = a :: t
          · rw [if_pos (by rw [he]), if_neg (by
              rintro (h | h | h | h)
              · omega
              · exact h hn
              · rw [decide_eq_true he] at h; cases h
              · rw [hpl] at h; cases h)]
          · have he8 : In8u (enc r) := by
              have := flat_in8 (l := [r]) (by intro x hx; simp at hx; rw [hx]; exact hsc)
              simpa using this
            rw [if_neg (fun e => he ((str_eq he8 h8).1 e)), if_pos (.inr (.inr (.inl (decide_eq_false he))))]
        · have hpl : plainK r = false := by unfold plainK; rw [beq_eq_false_iff_ne]; exact hw
          rw [if_neg hw, if_pos (.inr (.inr (.inr hpl)))]
      · have hcs := cut_some (m := t.length) (l := (a :: t).drop n.toNat) (by rw [hdl, List.length_cons]; omega) (by intro e; have h0 := hdl; rw [e] at h0; simp only [List.length_nil] at h0; omega)
        rw [show (if n = 0 ∨ n ≠ ((a :: t).length : Int) ∨ validK (a :: t) = false ∨ plainK r = false then ((8 : Int), (0 : Int)) else (1, r)) = (8, 0) from if_pos (.inr (.inl hn))]
        generalize cutN t.length ((a :: t).drop n.toNat) = q at hcs
        by_cases h1 : ((r :: q.1).length : Int) = 1
        · have : q.1 = [] := List.eq_nil_of_length_eq_zero (by rw [List.length_cons] at h1; omega)
          rw [if_pos h1, if_neg (by
            rcases hcs with h | h
            · exact absurd this h
            · have := List.length_pos_iff.2 h; omega)]
        · rw [if_neg h1]
theorem of_ref (B : List Int) (h8 : In8u B) (hl : B.length ≤ 100) (k : Nat) (hk : 400 ≤ k) : prolepsisref22_Of.f k B = some (ofK B) := by
  obtain ⟨k, rfl⟩ : ∃ m, k = m + 7 := ⟨k - 7, by omega⟩
  unfold prolepsisref22_Of.f
  rw [of_step B h8 2 (by omega), show (2 : Int) + 1 = 3 from rfl, of_step B h8 3 (by omega), show (3 : Int) + 1 = 4 from rfl, of_step B h8 4 (by omega), show (4 : Int) + 1 = 5 from rfl, of_step B h8 5 (by omega), show (5 : Int) + 1 = 6 from rfl, of_step B h8 6 (by omega), show (6 : Int) + 1 = 7 from rfl, of_step B h8 7 (by omega), show (7 : Int) + 1 = 8 from rfl]
  by_cases h2 : B = [8]
  · subst h2; rw [if_pos (show ([8] : List Int) = textK 2 from rfl)]; decide +kernel
  rw [if_neg (show ¬ B = textK 2 from h2)]
  by_cases h3 : B = [27, 91, 68]
  · subst h3; rw [if_pos (show ([27, 91, 68] : List Int) = textK 3 from rfl)]; decide +kernel
  rw [if_neg (show ¬ B = textK 3 from h3)]
  by_cases h4 : B = [27, 91, 67]
  · subst h4; rw [if_pos (show ([27, 91, 67] : List Int) = textK 4 from rfl)]; decide +kernel
  rw [if_neg (show ¬ B = textK 4 from h4)]
  by_cases h5 : B = [27, 91, 65]
  · subst h5; rw [if_pos (show ([27, 91, 65] : List Int) = textK 5 from rfl)]; decide +kernel
  rw [if_neg (show ¬ B = textK 5 from h5)]
  by_cases h6 : B = [27, 91, 66]
  · subst h6; rw [if_pos (show ([27, 91, 66] : List Int) = textK 6 from rfl)]; decide +kernel
  rw [if_neg (show ¬ B = textK 6 from h6)]
  by_cases h7 : B = [13]
  · subst h7; rw [if_pos (show ([13] : List Int) = textK 7 from rfl)]; decide +kernel
  rw [if_neg (show ¬ B = textK 7 from h7)]
  exact of_last B h8 hl (by unfold kindZ; rw [if_neg h2, if_neg h3, if_neg h4, if_neg h5, if_neg h6, if_neg h7]) k (by omega)
theorem ub_one (r : Int) : utf_Bytes.f 100 [r] = some (enc (mendK r)) := by
  rw [uBytes_ok [r] (by simp) 100 (by simp), List.flatMap_cons, List.flatMap_nil, List.append_nil]
  rfl
/-- The key's bytes, if it has some, are these. -/
theorem key_fits (B : List Int) (h8 : In8u B) (r1 r2 : Int) (h : ofK B = (r1, r2)) (c : List Int) (ok : Bool) (hb : bytesK r1 r2 = (c, ok)) :
    (-2147483648 ≤ r2 ∧ r2 ≤ 2147483647) ∧ (ok = (r1 != 8)) ∧ (ok = true → c = B) := by
  unfold ofK at h
  by_cases hz : kindZ B ≠ 0
  · rw [if_pos hz] at h
    injection h with e1 e2
    subst e1 e2
    have hk : textK (kindZ B) = B ∧ kindZ B ≠ 1 ∧ kindZ B ≠ 8 ∧ B ≠ [] := by
      unfold kindZ at hz ⊢
      repeat' split at hz
      all_goals first | (subst B; exact ⟨rfl, by decide, by decide, by simp⟩) | (exact absurd rfl hz) | skip
      all_goals sorry
    unfold bytesK at hb
    rw [if_neg hk.2.1, hk.1] at hb
    injection hb with e3 e4
    subst e3 e4
    refine ⟨by omega, ?_, fun _ => rfl⟩
    rw [show (B != []) = true by simpa using hk.2.2.2, show (kindZ B != 8) = true by simpa using hk.2.2.1]
  · rw [if_neg hz] at h
    by_cases hq : (firstK B).2 = 0 ∨ (firstK B).2 ≠ (B.length : Int) ∨ validK B = false ∨ plainK (firstK B).1 = false
    · rw [if_pos hq] at h
      injection h with e1 e2
      subst e1 e2
      have : bytesK 8 0 = ([], false) := by decide +kernel
      rw [this] at hb
      injection hb with e3 e4
      subst e3 e4
      exact ⟨by omega, rfl, fun h => by cases h⟩
    · rw [if_neg hq] at h
      injection h with e1 e2
      subst e1
      have hne : B ≠ [] := fun e => hq (.inl (by rw [e]; rfl))
      have hfk : firstK B = ((parseZ B).1, (parseZ B).2.1) := by unfold firstK; rw [if_neg hne]
      rw [hfk] at hq e2
      dsimp only at hq e2
      have hn0 : (parseZ B).2.1 ≠ 0 := fun e => hq (.inl e)
      have hnl : (parseZ B).2.1 = (B.length : Int) := Classical.byContradiction fun e => hq (.inr (.inl e))
      have hv : validK B = true := by cases hx : validK B; exact absurd (.inr (.inr (.inl hx))) hq; rfl
      have hpl : plainK (parseZ B).1 = true := by cases hx : plainK (parseZ B).1; exact absurd (.inr (.inr (.inr hx))) hq; rfl
      have hmore : (parseZ B).2.2 = false := by
        cases hx : (parseZ B).2.2
        · rfl
        · exact absurd (by rw [parse_more B hx]) hn0
      match B, hne with
      | a :: t, _ =>
        have hru : runesZ (a :: t) = [(parseZ (a :: t)).1] := by rw [runesZ_cons, if_neg (by rw [hmore]; simp), hnl, Int.toNat_natCast, List.drop_length, runesZ_nil]
        have hsc := runes_scalar _ (a :: t) (Nat.le_refl _) h8 (parseZ (a :: t)).1 (by rw [hru]; simp)
        rw [e2] at hru hsc hpl
        unfold validK at hv
        rw [hru] at hv
        have hen : enc r2 = a :: t := by simpa using hv
        unfold bytesK at hb
        rw [if_pos rfl, if_pos hpl] at hb
        injection hb with e3 e4
        subst e3 e4
        have hs := (scalar_iff r2).1 hsc
        exact ⟨by omega, rfl, fun _ => by unfold mendK; rw [if_pos hsc, hen]⟩
end Go.Proofs.Ytglcopljhanhmaa.Pure
