/- What the law KeySplits reaches answers true. -/
import Derived.Test.YtglcopljhanhmaaPKeySplitsx5
import Derived.Test.YtglcopljhanhmaaUtfB
import Derived.Test.YtglcopljhanhmaaUtfI
import Derived.OpenShut
namespace Go.Proofs.Ytglcopljhanhmaa.Pure
open Go.RowKit Go.Proofs.Ytglcopljhanhmaa.PKeySplits Go.Proofs.YtglcopljhanhmaaW.PrintWords Go.Proofs.YtglcopljhanhmaaW.PrintLast Go.Proofs.YtglcopljhanhmaaW.PrintMore
set_option linter.unusedVariables false
set_option linter.unusedSimpArgs false
theorem rAhead_l (a b : List Int) (ha : a.length ≤ 1000000) (hb : b.length ≤ 1000000) : ∀ (d i k : Nat), i + d = a.length → i ≤ b.length → 2 * d + 2 < k → prolepsisref02_ahead.l0 k a b (i : Int) = some (ahead (a.drop i) (b.drop i)) := by
  intro d
  induction d with
  | zero =>
    intro i k hi hib hk
    obtain ⟨k, rfl⟩ : ∃ m, k = m + 2 := ⟨k - 2, by omega⟩
    rw [prolepsisref02_ahead.l0, if_neg (by omega), prolepsisref02_ahead.j1, if_neg (by simp), List.drop_eq_nil_of_le (show a.length ≤ i by omega)]
    by_cases h : i < b.length
    · rw [drop_rd h]; simp [ahead]; omega
    · rw [List.drop_eq_nil_of_le (show b.length ≤ i by omega)]; simp [ahead]; omega
  | succ d ih =>
    intro i k hi hib hk
    obtain ⟨k, rfl⟩ : ∃ m, k = m + 2 := ⟨k - 2, by omega⟩
    rw [prolepsisref02_ahead.l0, if_pos (by omega), drop_rd (show i < a.length by omega)]
    by_cases h : i < b.length
    · rw [show decide ((i : Int) < (b.length : Int)) = true by simp; omega, prolepsisref02_ahead.j1, if_pos rfl, if_pos (by omega), if_pos (by omega), if_pos (by omega), w64 (by omega) (by omega), cast1, drop_rd h]
      simp only [ahead]
      by_cases e : rd a (i : Int) = rd b (i : Int)
      · rw [if_pos e, if_pos e, ih (i + 1) k (by omega) (by omega) (by omega)]
      · rw [if_neg e, if_neg e]
    · rw [show decide ((i : Int) < (b.length : Int)) = false by simp; omega, prolepsisref02_ahead.j1, if_neg (by simp), List.drop_eq_nil_of_le (show b.length ≤ i by omega)]
      simp [ahead]; omega
theorem rAhead_ok (a b : List Int) (ha : a.length ≤ 1000000) (hb : b.length ≤ 1000000) (k : Nat) (hk : 2 * a.length + 2 < k) : prolepsisref02_ahead.f k a b = some (ahead a b) := by
  unfold prolepsisref02_ahead.f
  have := rAhead_l a b ha hb a.length 0 k (by omega) (by omega) hk
  simpa using this
theorem rPre_l (p x : List Int) (hp : p.length ≤ 1000000) (hl : p.length ≤ x.length) : ∀ (d i k : Nat), i + d = p.length → d < k → prolepsisref02_within.l1 k p x (i : Int) = some (decide (p.drop i <+: x.drop i)) := by
  intro d
  induction d with
  | zero =>
    intro i k hi hk
    obtain ⟨k, rfl⟩ := kp hk
    rw [prolepsisref02_within.l1, if_neg (by omega), List.drop_eq_nil_of_le (show p.length ≤ i by omega)]
    simp
  | succ d ih =>
    intro i k hi hk
    obtain ⟨k, rfl⟩ := kp hk
    rw [prolepsisref02_within.l1, if_pos (by omega), if_pos (by omega), if_pos (by omega), w64 (by omega) (by omega), cast1, drop_rd (show i < p.length by omega), drop_rd (show i < x.length by omega)]
    by_cases e : rd x (i : Int) = rd p (i : Int)
    · rw [if_pos e, ih (i + 1) k (by omega) (by omega), e]
      congr 1
      rw [Bool.eq_iff_iff]
      simp [List.cons_prefix_cons]
    · rw [if_neg e]
      simp [List.cons_prefix_cons, Ne.symm e]

theorem scalar_mend {r : Int} (h : scalarZ r = true) : mend r = r := by unfold mend; rw [if_pos h]
/-- The search: p begins some scalar from lo to hi, all of them scalars. -/
theorem rWithin_l (p : List Int) (hp : p.length ≤ 4) (lo0 hi0 : Int) (h0 : 0 ≤ lo0) (hs : ∀ s, lo0 ≤ s → s ≤ hi0 → scalarZ s = true) : ∀ (d : Nat) (lo hi : Int) (k : Nat), lo0 ≤ lo → lo ≤ hi → hi ≤ hi0 → hi - lo < 2 ^ d → d + 20 < k →
    (∀ s, lo0 ≤ s → s < lo → ahead (enc s) p = true) → (hi = hi0 ∨ ahead (enc hi) p = false) →
    ∃ b, prolepsisref02_within.l0 k p lo hi = some b ∧ (b = true ↔ ∃ s, lo0 ≤ s ∧ s ≤ hi0 ∧ p <+: enc s) := by
  intro d
  induction d with
  | zero =>
    intro lo hi k h1 h2 h3 hd hk hlo hhi
    obtain ⟨k, rfl⟩ := kp hk
    obtain rfl : lo = hi := by simp at hd; omega
    have hsc := hs lo h1 h3
    rw [prolepsisref02_within.l0, if_neg (by omega), rBytes_ok _ k (by omega), scalar_mend hsc]
    simp only [Option.bind_some]
    have hup : ∀ s, lo0 ≤ s → s ≤ hi0 → p <+: enc s → p <+: enc lo := by
      intro s hs0 hs1 hpre
      have hge : lo ≤ s := by
        by_cases hlt : s < lo
        · have := hlo s hs0 hlt; rw [pre_ahead p _ hpre] at this; cases this
        · omega
      by_cases e : lo = s
      · rw [e]; exact hpre
      · have hsc2 := (scalar_iff s).1 (hs s hs0 hs1)
        rcases hhi with h | h
        · omega
        · exact pre_between p (enc lo) (enc s) h (enc_le lo s (by omega) hge (by omega)) hpre
    by_cases hl : ((enc lo).length : Int) < (p.length : Int)
    · rw [if_pos hl]
      refine ⟨false, rfl, by simp, ?_⟩
      rintro ⟨s, hs0, hs1, hpre⟩
      have := (hup s hs0 hs1 hpre).length_le
      omega
    · rw [if_neg hl]
      have := rPre_l p (enc lo) (by omega) (by omega) p.length 0 k (by omega) (by omega)
      refine ⟨_, by simpa using this, ?_⟩
      rw [decide_eq_true_iff]
      exact ⟨fun h => ⟨lo, h1, h3, h⟩, fun ⟨s, a, b, c⟩ => hup s a b c⟩
  | succ d ih =>
    intro lo hi k h1 h2 h3 hd hk hlo hhi
    have hsl := (scalar_iff lo).1 (hs lo h1 (by omega))
    have hsh := (scalar_iff hi).1 (hs hi (by omega) h3)
    by_cases e : lo < hi
    · obtain ⟨k, rfl⟩ := kp hk
      have hm0 : lo ≤ (lo + hi) / 2 := by omega
      have hm1 : (lo + hi) / 2 < hi := by omega
      have hsc := hs ((lo + hi) / 2) (by omega) (by omega)
      have hel := enc_len ((lo + hi) / 2)
      rw [prolepsisref02_within.l0, if_pos e, w64 (x := lo + hi) (by omega) (by omega), td (by omega), w64 (x := (lo + hi) / 2) (by omega) (by omega), rBytes_ok _ k (by omega), scalar_mend hsc]
      simp only [Option.bind_some]
      rw [rAhead_ok _ _ (by omega) (by omega) k (by omega)]
      simp only [Option.bind_some]
      have hp2 : (2 : Int) ^ (d + 1) = 2 * 2 ^ d := by rw [Int.pow_succ]; omega
      rw [hp2] at hd
      cases ha : ahead (enc ((lo + hi) / 2)) p
      · rw [if_neg (by simp)]
        exact ih lo ((lo + hi) / 2) k h1 hm0 (by omega) (by omega) (by omega) hlo (.inr ha)
      · rw [if_pos rfl, w64 (by omega) (by omega)]
        refine ih ((lo + hi) / 2 + 1) hi k (by omega) (by omega) h3 (by omega) (by omega) ?_ hhi
        intro s hs0 hs1
        have hss := (scalar_iff s).1 (hs s hs0 (by omega))
        cases hb : ahead (enc s) p
        · have := ahead_trans (enc ((lo + hi) / 2)) (enc s) p (enc_le s ((lo + hi) / 2) (by omega) (by omega) (by omega)) hb
          rw [ha] at this; cases this
        · rfl
    · obtain rfl : lo = hi := by omega
      exact ih lo lo k h1 (Int.le_refl _) h3 (by rw [Int.sub_self]; exact Int.pow_pos (by decide)) (by omega) hlo hhi
theorem rBegins_ok (p : List Int) (h8 : In8u p) (k : Nat) (hk : 60 < k) : prolepsisref02_begins.f k p = some (begZ p) := by
  unfold prolepsisref02_begins.f
  by_cases hp : (p.length : Int) ≤ 4
  · rw [if_pos hp]
    obtain ⟨b1, e1, i1⟩ := rWithin_l p (by omega) 0 55295 (by omega) (fun s a b => (scalar_iff s).2 (by omega)) 21 0 55295 k (by omega) (by omega) (by omega) (by decide) (by omega) (fun s a b => by omega) (.inl rfl)
    obtain ⟨b2, e2, i2⟩ := rWithin_l p (by omega) 57344 1114111 (by omega) (fun s a b => (scalar_iff s).2 (by omega)) 21 57344 1114111 k (by omega) (by omega) (by omega) (by decide) (by omega) (fun s a b => by omega) (.inl rfl)
    unfold prolepsisref02_within.f
    rw [e1, e2]
    simp only [Option.bind_some]
    have key : begZ p = (b1 || b2) := by
      rw [Bool.eq_iff_iff, Bool.or_eq_true, i1, i2]
      constructor
      · intro h
        obtain ⟨s, hs, hpre⟩ := begins_enc p h8 h
        rcases (scalar_iff s).1 hs with a | a
        · exact .inl ⟨s, a.1, a.2, hpre⟩
        · exact .inr ⟨s, a.1, a.2, hpre⟩
      · rintro (⟨s, a, b, hpre⟩ | ⟨s, a, b, hpre⟩) <;> exact enc_begins s ((scalar_iff s).2 (by omega)) p hpre
    rw [key]
    cases b1 <;> simp
  · rw [if_neg hp]
    match p, hp with
    | [], h => simp at h
    | [_], h => simp at h
    | [_, _], h => simp at h
    | [_, _, _], h => simp at h
    | [_, _, _, _], h => simp at h
    | _ :: _ :: _ :: _ :: _ :: _, _ => rfl
theorem takeS (l : List Int) (n : Nat) (h : n < l.length) : l.take (wrap64 ((n : Int) + 1)).toNat = l.take (n + 1) ∧ wrap64 ((n : Int) + 1) = ((n + 1 : Nat) : Int) ∨ 9223372036854775807 ≤ n := by
  by_cases hn : 9223372036854775807 ≤ n
  · exact .inr hn
  · rw [w64 (by omega) (by omega)]; exact .inl ⟨by rw [show ((n : Int) + 1).toNat = n + 1 by omega], by omega⟩
theorem rScal (l : List Int) (h8 : In8u l) (hne : l ≠ []) : prolepsisref02_scalar.f l = some (scalV l, scalB l) := by
  unfold prolepsisref02_scalar.f
  rw [if_pos ⟨hne, List.all_eq_true.2 (fun x hx => decide_eq_true (h8 x hx))⟩]
theorem rF_end (k : Nat) (l : List Int) (n : Nat) (h : n = l.length) : prolepsisref02_First.l0 (k + 2) l (n : Int) = some (0, 0) := by
  rw [prolepsisref02_First.l0, if_neg (by omega), prolepsisref02_First.j1, if_neg (by simp), if_pos (by omega)]
theorem rF_stop (k : Nat) (l : List Int) (n : Nat) (h8 : In8u l) (h : n < l.length) (hl : l.length ≤ 1000000) (hk : 60 ≤ k) (hb : begZ (l.take (n + 1)) = false) : prolepsisref02_First.l0 (k + 2) l (n : Int) = some (65533, if n = 0 then 1 else (n : Int)) := by
  obtain ⟨e1, e2⟩ := (takeS l n h).resolve_right (by omega)
  rw [prolepsisref02_First.l0, if_pos (by omega), e1, e2, if_pos (by omega), if_pos (by omega), rBegins_ok (l.take (n + 1)) (fun x hx => h8 x (List.mem_of_mem_take hx)) (k + 1) (by omega), hb]
  simp only [Option.bind_some]
  rw [prolepsisref02_First.j1, if_neg (by simp), if_neg (by omega)]
  by_cases e : n = 0
  · rw [if_pos (by omega), if_pos e]
  · rw [if_neg (by omega), if_neg e]
theorem rF_j1 (k : Nat) (l : List Int) (n : Nat) (h8 : In8u l) (h : n < l.length) (hl : l.length ≤ 1000000) : prolepsisref02_First.j1 (k + 1) l (n : Int) true = (if scalB (l.take (n + 1)) = true then some (scalV (l.take (n + 1)), ((n + 1 : Nat) : Int)) else prolepsisref02_First.l0 k l ((n + 1 : Nat) : Int)) := by
  obtain ⟨e1, e2⟩ := (takeS l n h).resolve_right (by omega)
  have hs := rScal (l.take (n + 1)) (fun x hx => h8 x (List.mem_of_mem_take hx)) (by intro e; rw [List.take_eq_nil_iff] at e; rcases e with e | e; exact absurd e (by omega); rw [e] at h; exact absurd h (by simp))
  have g1 : (0 : Int) ≤ ((n + 1 : Nat) : Int) := by omega
  have g2 : ((n + 1 : Nat) : Int) ≤ (l.length : Int) := by omega
  rw [prolepsisref02_First.j1, if_pos (show true = true from rfl), e1, e2, if_pos g1, if_pos g2, hs, Option.bind_some]
theorem rF_go (k : Nat) (l : List Int) (n : Nat) (h8 : In8u l) (h : n < l.length) (hl : l.length ≤ 1000000) (hk : 60 ≤ k) (hb : begZ (l.take (n + 1)) = true) : prolepsisref02_First.l0 (k + 2) l (n : Int) = (if scalB (l.take (n + 1)) = true then some (scalV (l.take (n + 1)), ((n + 1 : Nat) : Int)) else prolepsisref02_First.l0 k l ((n + 1 : Nat) : Int)) := by
  obtain ⟨e1, e2⟩ := (takeS l n h).resolve_right (by omega)
  have g0 : (n : Int) < (l.length : Int) := by omega
  have g1 : (0 : Int) ≤ ((n + 1 : Nat) : Int) := by omega
  have g2 : ((n + 1 : Nat) : Int) ≤ (l.length : Int) := by omega
  have hs := rBegins_ok (l.take (n + 1)) (fun x hx => h8 x (List.mem_of_mem_take hx)) (k + 1) (by omega)
  rw [← rF_j1 k l n h8 h hl, prolepsisref02_First.l0, if_pos g0, e1, e2, if_pos g1, if_pos g2, hs, hb, Option.bind_some]
theorem beg1 (a : Int) (h0 : 0 ≤ a) : begZ [a] = decide (a < 128 ∨ 194 ≤ a ∧ a ≤ 244) := by simp [begZ]
def firstZ (l : List Int) : Int × Int := if (parseZ l).2.2 = true then (0, 0) else ((parseZ l).1, (parseZ l).2.1)
theorem rFirst_ok (l : List Int) (h8 : In8u l) (hl : l.length ≤ 1000000) (k : Nat) (hk : 80 ≤ k) : prolepsisref02_First.f k l = some (firstZ l) := by
  obtain ⟨k, rfl⟩ : ∃ m, k = m + 10 := ⟨k - 10, by omega⟩
  unfold prolepsisref02_First.f firstZ
  cases l with
  | nil => rfl
  | cons a t =>
    have ha := h8 a (by simp)
    have hl0 : 0 < (a :: t).length := by simp
    obtain ⟨p, hp⟩ : ∃ p, parseZ (a :: t) = p := ⟨_, rfl⟩
    rw [hp]
    simp only [parseZ] at hp
    rw [show prolepsisref02_First.l0 (k + 10) (a :: t) 0 = prolepsisref02_First.l0 (k + 8 + 2) (a :: t) ((0 : Nat) : Int) from rfl]
    have tk1 : (a :: t).take (0 + 1) = [a] := rfl
    by_cases h1 : a < 128
    · rw [if_pos h1] at hp
      rw [rF_go (k + 8) (a :: t) 0 h8 hl0 hl (by omega) (by rw [tk1, beg1 _ ha.1]; simp [h1]), tk1, if_pos (by rw [scal1 ha]; simp [h1]), ← hp]
      rfl
    rw [if_neg h1] at hp
    by_cases h2 : a < 194 ∨ 244 < a
    · rw [if_pos h2] at hp
      rw [rF_stop (k + 8) (a :: t) 0 h8 hl0 hl (by omega) (by rw [tk1, beg1 _ ha.1, decide_eq_false_iff_not]; omega), ← hp]
      rfl
    rw [if_neg h2] at hp
    rw [rF_go (k + 8) (a :: t) 0 h8 hl0 hl (by omega) (by rw [tk1, beg1 _ ha.1, decide_eq_true_iff]; omega), tk1, if_neg (by rw [scal1 ha]; simp; omega)]
    cases t with
    | nil => rw [← hp, rF_end (k + 6) [a] (0 + 1) rfl]; rfl
    | cons b t =>
      dsimp only at hp
      have tk2 : (a :: b :: t).take (0 + 1 + 1) = [a, b] := rfl
      have hl1 : 0 + 1 < (a :: b :: t).length := by simp
      by_cases h3 : two a b = true
      · rw [h3, if_neg (by simp)] at hp
        rw [rF_go (k + 6) (a :: b :: t) (0 + 1) h8 hl1 hl (by omega) (by rw [tk2]; exact h3), tk2]
        by_cases h4 : a < 224
        · rw [if_pos h4] at hp
          rw [if_pos (by rw [scal2 h3]; simp [h4]), ← hp, show scalV [a, b] = (a - 192) * 64 + b - 128 from rfl, show (a - 192) * 64 + (b - 128) = (a - 192) * 64 + b - 128 by omega]
          rfl
        rw [if_neg h4] at hp
        rw [if_neg (by rw [scal2 h3]; simp [h4])]
        cases t with
        | nil => rw [← hp, rF_end (k + 4) [a, b] (0 + 1 + 1) rfl]; rfl
        | cons c t =>
          dsimp only at hp
          have tk3 : (a :: b :: c :: t).take (0 + 1 + 1 + 1) = [a, b, c] := rfl
          have hl2 : 0 + 1 + 1 < (a :: b :: c :: t).length := by simp
          by_cases h5 : cont c = true
          · rw [h5, if_neg (by simp)] at hp
            rw [rF_go (k + 4) (a :: b :: c :: t) (0 + 1 + 1) h8 hl2 hl (by omega) (by rw [tk3]; simp [begZ, h3, h5]; omega), tk3]
            by_cases h6 : a < 240
            · rw [if_pos h6] at hp
              rw [if_pos (by rw [scal3 h3 (by omega) h5]; simp [h6]), ← hp, show scalV [a, b, c] = (a - 224) * 4096 + (b - 128) * 64 + c - 128 from rfl, show (a - 224) * 4096 + (b - 128) * 64 + (c - 128) = (a - 224) * 4096 + (b - 128) * 64 + c - 128 by omega]
              rfl
            rw [if_neg h6] at hp
            rw [if_neg (by rw [scal3 h3 (by omega) h5]; simp [h6])]
            cases t with
            | nil => rw [← hp, rF_end (k + 2) [a, b, c] (0 + 1 + 1 + 1) rfl]; rfl
            | cons d t =>
              dsimp only at hp
              have tk4 : (a :: b :: c :: d :: t).take (0 + 1 + 1 + 1 + 1) = [a, b, c, d] := rfl
              have hl3 : 0 + 1 + 1 + 1 < (a :: b :: c :: d :: t).length := by simp
              by_cases h7 : cont d = true
              · rw [h7, if_neg (by simp)] at hp
                rw [rF_go (k + 2) (a :: b :: c :: d :: t) (0 + 1 + 1 + 1) h8 hl3 hl (by omega) (by rw [tk4]; simp [begZ, h3, h5, h7]; omega), tk4, if_pos (scal4 h3 (by omega) h5 h7), ← hp, show scalV [a, b, c, d] = (a - 240) * 262144 + (b - 128) * 4096 + (c - 128) * 64 + d - 128 from rfl, show (a - 240) * 262144 + (b - 128) * 4096 + (c - 128) * 64 + (d - 128) = (a - 240) * 262144 + (b - 128) * 4096 + (c - 128) * 64 + d - 128 by omega]
                rfl
              · rw [Bool.eq_false_iff.2 h7, if_pos rfl] at hp
                rw [rF_stop (k + 2) (a :: b :: c :: d :: t) (0 + 1 + 1 + 1) h8 hl3 hl (by omega) (by rw [tk4]; simp [begZ, h7]), ← hp]
                rfl
          · rw [Bool.eq_false_iff.2 h5, if_pos rfl] at hp
            rw [rF_stop (k + 4) (a :: b :: c :: t) (0 + 1 + 1) h8 hl2 hl (by omega) (by rw [tk3]; simp [begZ, h5]), ← hp]
            rfl
      · rw [Bool.eq_false_iff.2 h3, if_pos rfl] at hp
        rw [rF_stop (k + 6) (a :: b :: t) (0 + 1) h8 hl1 hl (by omega) (by rw [tk2]; exact Bool.eq_false_iff.2 h3), ← hp]
        rfl
/-- What is cut: the scalars, and what is held. -/
theorem mn_len {n : Nat} {c : Int} (hc : 0 ≤ c) : 0 ≤ mn (n : Int) c ∧ mn (n : Int) c ≤ n ∧ mn (n : Int) c ≤ c := by unfold mn; split <;> omega
theorem in32 {x : Int} (h : (Lit.int .i32 x).wf = true) : -2147483648 ≤ x ∧ x ≤ 2147483647 := by have := bounds_i32 h; omega
theorem in8 {x : Int} (h : (Lit.int .u8 x).wf = true) : 0 ≤ x ∧ x ≤ 255 := by have := bounds_u8 h; omega
theorem parse_four (l : List Int) : (parseZ l).2.1 ≤ 4 := by
  match l with
  | [] => simp [parseZ]
  | [a] => simp only [parseZ]; repeat' split
           all_goals simp
  | [a, b] => simp only [parseZ]; repeat' split
              all_goals simp
  | [a, b, c] => simp only [parseZ]; repeat' split
                 all_goals simp
  | a :: b :: c :: d :: l => simp only [parseZ]; repeat' split
                             all_goals simp
theorem parse_less3 (l : List Int) (h : (parseZ l).2.1 = 0) : l.length ≤ 3 := by
  match l with
  | [] => simp
  | [a] => simp
  | [a, b] => simp
  | [a, b, c] => simp
  | a :: b :: c :: d :: l =>
    simp only [parseZ] at h
    repeat' split at h
    all_goals simp at h
theorem cutK_four {l : List Int} (h : l ≠ []) : cutK l ≤ 4 := by
  have h4 := parse_four l
  have h3 := parse_less3 l
  have hk := parse_k l
  unfold cutK firstK
  rw [if_neg h]
  split
  · omega
  · split <;> (dsimp only at *; omega)
theorem first_eq (l : List Int) : (firstZ l).2 = (parseZ l).2.1 := by
  unfold firstZ
  by_cases h : (parseZ l).2.2 = true
  · rw [if_pos h, parse_more l h]
  · rw [if_neg h]
theorem kind3 {a b c : Int} : kindZ [a, b, c] ≠ 0 ↔ a = 27 ∧ b = 91 ∧ 65 ≤ c ∧ c ≤ 68 := by
  unfold kindZ
  simp only [List.cons.injEq, and_true, List.nil_eq, reduceCtorEq, and_false, if_false]
  constructor
  · intro h
    split at h
    · omega
    · split at h
      · omega
      · split at h
        · omega
        · split at h
          · omega
          · exact absurd rfl h
  · rintro ⟨rfl, rfl, h1, h2⟩
    have : c = 65 ∨ c = 66 ∨ c = 67 ∨ c = 68 := by omega
    rcases this with rfl | rfl | rfl | rfl <;> decide
theorem split_step (L : List Int) (out : List ByteArray) (h8 : In8u L) (hne : L ≠ []) (hl : L.length ≤ 1000) (ho : out.length ≤ 100000) (k : Nat) (hk : 80 ≤ k) :
    prolepsisref22_Split.l0 (k + 1) L out = prolepsisref22_Split.l0 k (L.drop (cutK L)) (out ++ [strOfNums (L.take (cutK L))]) := by
  have hp := List.length_pos_iff.2 hne
  have hq := parse_k L
  have hq2 := first_eq L
  have e0 : (L.length : Int) > 0 := by omega
  have e0' : 0 < (L.length : Int) := by omega
  have e4 : 0 ≤ (L.length : Int) := by omega
  have e5 : (L.length : Int) ≤ (L.length : Int) := by omega
  have e6 : out.length < 8796093022208 := by omega
  have hcut : cutK L = if 3 ≤ L.length ∧ kindZ (L.take 3) ≠ 0 then 3 else if 0 < (firstZ L).2 then (firstZ L).2.toNat else L.length := by
    unfold cutK firstK
    rw [if_neg hne, hq2]
  rw [prolepsisref22_Split.l0, if_pos e0, rFirst_ok L h8 (by omega) k hk, Option.bind_some]
  rw [← hq2] at hq
  generalize (firstZ L).2 = q at *
  have hx : L.length ≤ 2 ∨ ∃ a b c t, L = a :: b :: c :: t := by
    match L with
    | [] => simp
    | [a] => simp
    | [a, b] => simp
    | a :: b :: c :: t => exact .inr ⟨a, b, c, t, rfl⟩
  rcases hx with h2 | ⟨a, b, c, t, rfl⟩
  · have e2 : ¬ ((L.length : Int) > 2) := by omega
    rw [if_neg (by omega)] at hcut
    by_cases hq0 : q = 0
    · rw [if_pos hq0, if_neg e2, if_pos e4, if_pos e5, if_pos e6, hcut, if_neg (by omega), Int.toNat_natCast]
    · rw [if_neg hq0, if_neg e2, if_pos (by omega), if_pos (by omega), if_pos e6, hcut, if_pos (by omega)]
  · generalize hLL : a :: b :: c :: t = L at *
    have hlen : 3 ≤ L.length := by rw [← hLL]; simp
    have e2 : (L.length : Int) > 2 := by omega
    have e2' : 2 < (L.length : Int) := by omega
    have e1 : 1 < (L.length : Int) := by omega
    have e3 : 3 ≤ (L.length : Int) := by omega
    have r0 : rd L 0 = a := by rw [← hLL]; rfl
    have r1 : rd L 1 = b := by rw [← hLL]; rfl
    have r2 : rd L 2 = c := by rw [← hLL]; rfl
    have ht : L.take 3 = [a, b, c] := by rw [← hLL]; rfl
    rw [ht] at hcut
    by_cases hc : a = 27 ∧ b = 91 ∧ 65 ≤ c ∧ c ≤ 68
    · rw [if_pos ⟨hlen, kind3.2 hc⟩] at hcut
      obtain ⟨ha, hb, hc1, hc2⟩ := hc
      have hc1' : c ≥ 65 := hc1
      by_cases hq0 : q = 0
      · rw [if_pos hq0, if_pos e2, if_pos e0', r0, if_pos ha, if_pos e1, r1, if_pos hb, if_pos e2', r2, if_pos hc1', if_pos hc2, if_pos e3, if_pos e6, hcut]
      · rw [if_neg hq0, if_pos e2, if_pos e0', r0, if_pos ha, if_pos e1, r1, if_pos hb, if_pos e2', r2, if_pos hc1', if_pos hc2, if_pos e3, if_pos e6, hcut]
    · rw [if_neg (fun h => hc (kind3.1 h.2))] at hcut
      have X0 : q = 0 → (if 0 ≤ (L.length : Int) then (if (L.length : Int) ≤ (L.length : Int) then (if out.length < 8796093022208 then (prolepsisref22_Split.l0 k (L.drop ((L.length : Int) : Int).toNat) (out ++ [strOfNums (L.take ((L.length : Int) : Int).toNat)])) else (none)) else (none)) else (none)) = prolepsisref22_Split.l0 k (L.drop (cutK L)) (out ++ [strOfNums (L.take (cutK L))]) := by
        intro hq0
        rw [if_pos e4, if_pos e5, if_pos e6, hcut, if_neg (by omega), Int.toNat_natCast]
      have X1 : q ≠ 0 → (if 0 ≤ q then (if q ≤ (L.length : Int) then (if out.length < 8796093022208 then (prolepsisref22_Split.l0 k (L.drop (q : Int).toNat) (out ++ [strOfNums (L.take (q : Int).toNat)])) else (none)) else (none)) else (none)) = prolepsisref22_Split.l0 k (L.drop (cutK L)) (out ++ [strOfNums (L.take (cutK L))]) := by
        intro hq0
        rw [if_pos (by omega), if_pos (by omega), if_pos e6, hcut, if_pos (by omega)]
      by_cases hq0 : q = 0
      · rw [if_pos hq0, if_pos e2, if_pos e0', r0]
        by_cases ha : a = 27
        · rw [if_pos ha, if_pos e1, r1]
          by_cases hb : b = 91
          · rw [if_pos hb, if_pos e2', r2]
            by_cases h65 : c ≥ 65
            · rw [if_pos h65, if_neg (fun h => hc ⟨ha, hb, h65, h⟩)]; exact X0 hq0
            · rw [if_neg h65]; exact X0 hq0
          · rw [if_neg hb]; exact X0 hq0
        · rw [if_neg ha]; exact X0 hq0
      · rw [if_neg hq0, if_pos e2, if_pos e0', r0]
        by_cases ha : a = 27
        · rw [if_pos ha, if_pos e1, r1]
          by_cases hb : b = 91
          · rw [if_pos hb, if_pos e2', r2]
            by_cases h65 : c ≥ 65
            · rw [if_pos h65, if_neg (fun h => hc ⟨ha, hb, h65, h⟩)]; exact X1 hq0
            · rw [if_neg h65]; exact X1 hq0
          · rw [if_neg hb]; exact X1 hq0
        · rw [if_neg ha]; exact X1 hq0
theorem split_all : ∀ (n : Nat) (L : List Int) (out : List ByteArray) (k : Nat), L.length ≤ n → In8u L → L.length ≤ 1000 → out.length + n ≤ 100000 → n + 80 < k → prolepsisref22_Split.l0 k L out = some (out ++ (splitZ L).map strOfNums) := by
  intro n
  induction n with
  | zero =>
    intro L out k hl h8 hL ho hk
    obtain ⟨k, rfl⟩ : ∃ m, k = m + 1 := ⟨k - 1, by omega⟩
    rw [List.eq_nil_of_length_eq_zero (Nat.le_zero.1 hl), prolepsisref22_Split.l0, if_neg (by simp)]
    simp [splitZ_nil]
  | succ n ih =>
    intro L out k hl h8 hL ho hk
    obtain ⟨k, rfl⟩ : ∃ m, k = m + 1 := ⟨k - 1, by omega⟩
    by_cases hne : L = []
    · subst hne
      rw [prolepsisref22_Split.l0, if_neg (by simp)]
      simp [splitZ_nil]
    · have hp := cutK_pos hne
      rw [split_step L out h8 hne hL (by omega) k (by omega), splitZ_cons hne, ih _ _ k (by rw [List.length_drop]; omega) (fun x hx => h8 x (List.mem_of_mem_drop hx)) (by rw [List.length_drop]; omega) (by rw [List.length_append, List.length_singleton]; omega) (by omega)]
      simp
theorem split_flat : ∀ (n : Nat) (L : List Int), L.length ≤ n → (splitZ L).flatten = L := by
  intro n
  induction n with
  | zero => intro L h; rw [List.eq_nil_of_length_eq_zero (Nat.le_zero.1 h)]; rfl
  | succ n ih =>
    intro L h
    by_cases hne : L = []
    · subst hne; rfl
    · have hp := cutK_pos hne
      rw [splitZ_cons hne, List.flatten_cons, ih _ (by rw [List.length_drop]; omega), List.take_append_drop]
theorem split_lens : ∀ (n : Nat) (L : List Int), L.length ≤ n → ∀ x ∈ splitZ L, 1 ≤ x.length ∧ x.length ≤ 4 := by
  intro n
  induction n with
  | zero => intro L h x hx; rw [List.eq_nil_of_length_eq_zero (Nat.le_zero.1 h), splitZ_nil] at hx; cases hx
  | succ n ih =>
    intro L h x hx
    by_cases hne : L = []
    · subst hne; rw [splitZ_nil] at hx; cases hx
    · have hp := cutK_pos hne
      have h4 := cutK_four hne
      rw [splitZ_cons hne] at hx
      rcases List.mem_cons.1 hx with rfl | hx
      · rw [List.length_take]; omega
      · exact ih _ (by rw [List.length_drop]; omega) x hx
theorem split_len : ∀ (n : Nat) (L : List Int), L.length ≤ n → (splitZ L).length ≤ L.length := by
  intro n
  induction n with
  | zero => intro L h; rw [List.eq_nil_of_length_eq_zero (Nat.le_zero.1 h)]; simp [splitZ_nil]
  | succ n ih =>
    intro L h
    by_cases hne : L = []
    · subst hne; simp [splitZ_nil]
    · have hp := cutK_pos hne
      have := ih (L.drop (cutK L)) (by rw [List.length_drop]; omega)
      rw [splitZ_cons hne, List.length_cons]
      rw [List.length_drop] at this
      omega
theorem str_app (a b : List Int) : strOfNums a ++ strOfNums b = strOfNums (a ++ b) := by
  apply ByteArray.ext
  unfold strOfNums
  rw [ByteArray.data_append]
  simp
theorem rdS (S : List (List Int)) {i : Nat} (h : i < S.length) : rd_L1 S (i : Int) = S[i] := by
  unfold rd_L1; rw [Int.toNat_natCast, List.getD_eq_getElem?_getD, List.getElem?_eq_getElem h]; rfl
theorem rdT (S : List (List Int)) {i : Nat} (h : i < S.length) : rdOf ByteArray.empty (S.map strOfNums) (i : Int) = strOfNums S[i] := by
  unfold rdOf; rw [Int.toNat_natCast, List.getD_eq_getElem?_getD, List.getElem?_map, List.getElem?_eq_getElem h]; rfl
theorem str_sz (l : List Int) : (strOfNums l).size = l.length := by simp [strOfNums, ByteArray.size]
theorem flat_len (S : List (List Int)) (hS : ∀ x ∈ S, 1 ≤ x.length ∧ x.length ≤ 4) : ∀ i, (S.take i).flatten.length ≤ 4 * i := by
  intro i
  induction i with
  | zero => simp
  | succ i ih =>
    by_cases h : i < S.length
    · rw [List.take_succ_eq_append_getElem h, List.flatten_append, List.length_append, List.flatten_cons, List.flatten_nil, List.append_nil]
      have := hS S[i] (List.getElem_mem h)
      omega
    · rw [List.take_of_length_le (by omega)]
      rw [List.take_of_length_le (by omega)] at ih
      omega
theorem law_loop (B : List Int) (S : List (List Int)) (hS : ∀ x ∈ S, 1 ≤ x.length ∧ x.length ≤ 4) (hl : S.length ≤ 1000) (hf : S.flatten = B) : ∀ (d i k : Nat), i + d = S.length → d < k →
    prolepsislaw22_KeySplits.l0 k B S (S.map strOfNums) (strOfNums (S.take i).flatten) (i : Int) = some true := by
  intro d
  induction d with
  | zero =>
    intro i k hi hk
    obtain ⟨k, rfl⟩ := kp hk
    rw [prolepsislaw22_KeySplits.l0, if_neg (by omega), show prolepsislaw22_known.f = some true from rfl, Option.bind_some, if_pos rfl, List.take_of_length_le (by omega), hf]
    simp
  | succ d ih =>
    intro i k hi hk
    obtain ⟨k, rfl⟩ := kp hk
    have hlt : i < S.length := by omega
    have hx := hS S[i] (List.getElem_mem hlt)
    have hfl := flat_len S hS i
    rw [prolepsislaw22_KeySplits.l0, if_pos (by omega), if_pos (by omega), if_pos (by rw [List.length_map]; omega), rdS S hlt, rdT S hlt, if_pos rfl, if_neg (by omega), if_neg (by omega), if_pos (by rw [str_sz, str_sz]; omega), w64 (by omega) (by omega), cast1, str_app,
      show (S.take i).flatten ++ S[i] = (S.take (i + 1)).flatten by rw [List.take_succ_eq_append_getElem hlt, List.flatten_append, List.flatten_cons, List.flatten_nil, List.append_nil]]
    exact ih (i + 1) k (by omega) (by omega)
theorem KeySplits : prolepsislaw22_KeySplits.Pure := by
  intro l0 hm hs hw
  have h8 : In8u l0 := fun x hx => in8 (hw x hx)
  refine ⟨1000, ?_⟩
  have hn := mn_len (n := l0.length) (c := 60) (by omega)
  unfold prolepsislaw22_KeySplits.f
  rw [if_pos hn.1, if_pos hn.2.1]
  have hB : (l0.take (mn (l0.length : Int) 60).toNat).length ≤ 60 := by rw [List.length_take]; omega
  have h8B : In8u (l0.take (mn (l0.length : Int) 60).toNat) := fun x hx => h8 x (List.mem_of_mem_take hx)
  generalize l0.take (mn (l0.length : Int) 60).toNat = B at hB h8B
  have hS := split_lens B.length B (Nat.le_refl _)
  have hf := split_flat B.length B (Nat.le_refl _)
  have hl := split_len B.length B (Nat.le_refl _)
  rw [show key_Split.f B = some (splitZ B) by unfold key_Split.f; rw [if_pos ⟨all8K.2 h8B, by omega⟩], Option.bind_some]
  unfold prolepsisref22_Split.f
  rw [split_all B.length B [] 1000 (Nat.le_refl _) h8B (by omega) (by simp; omega) (by omega), Option.bind_some, if_pos (by simp)]
  exact law_loop B (splitZ B) hS (by omega) hf (splitZ B).length 0 1000 (by omega) (by omega)
end Go.Proofs.Ytglcopljhanhmaa.Pure
