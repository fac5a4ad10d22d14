/- A stream of bytes, cut anywhere. -/
import Derived.Test.YtlllbaieidbcdaaPParseEventsx
import Derived.Test.YtlllbaieidbcdaaUtfB
import Derived.Test.YtlllbaieidbcdaaUtfC
import Derived.Test.YtlllbaieidbcdaaUtfD
import Derived.Test.YtlllbaieidbcdaaUtfI
import Derived.OpenShut
namespace Go.Proofs.Ytlllbaieidbcdaa.Str
open Go.RowKit Go.Proofs.Ytlllbaieidbcdaa Go.Proofs.Ytlllbaieidbcdaa.PParseEvents Go.Proofs.YtlllbaieidbcdaaW.PrintWords Go.Proofs.YtlllbaieidbcdaaW.PrintLast Go.Proofs.YtlllbaieidbcdaaW.PrintMore
set_option linter.unusedVariables false
set_option linter.unusedSimpArgs false
theorem w64 {x : Int} (h0 : -9223372036854775808 ≤ x) (h1 : x < 9223372036854775808) : wrap64 x = x := by unfold wrap64; omega
theorem kp {d k : Nat} (h : d < k) : ∃ m, k = m + 1 := ⟨k - 1, by omega⟩
theorem drop_rd {xs : List Int} {i : Nat} (h : i < xs.length) : xs.drop i = rd xs (i : Int) :: xs.drop (i + 1) := by
  rw [List.drop_eq_getElem_cons h]
  simp [rd, List.getD_eq_getElem?_getD, h]
theorem rd_in {xs : List Int} {i : Nat} (h : i < xs.length) : rd xs (i : Int) ∈ xs := by
  simp [rd, List.getD_eq_getElem?_getD, h]
theorem cast1 (i : Nat) : ((i : Int) + 1) = ((i + 1 : Nat) : Int) := by omega
theorem td {x n : Int} (h : 0 ≤ x) : Int.tdiv x n = x / n := Int.tdiv_eq_ediv_of_nonneg h
theorem tm {x n : Int} (h : 0 ≤ x) : Int.tmod x n = x % n := Int.tmod_eq_emod_of_nonneg h
theorem p_lead (a : Int) (h : 194 ≤ a ∧ a ≤ 244) (k : Nat) (hk : 3 ≤ k) : ∃ n lo hi, utf_lead.f k a = some (n, lo, hi) ∧ n = (if a < 224 then 2 else if a < 240 then 3 else 4) ∧ 128 ≤ lo ∧ hi ≤ 191 ∧ ∀ b, two a b = (decide (lo ≤ b) && decide (b ≤ hi)) := by
  obtain ⟨k, rfl⟩ : ∃ m, k = m + 2 := ⟨k - 2, by omega⟩
  unfold utf_lead.f
  rw [if_neg (by omega), if_neg (by omega), show decide (a > 244) = false by simp; omega, utf_lead.j0, if_neg (by simp)]
  by_cases h1 : a < 224
  · rw [if_pos h1]
    refine ⟨2, 128, 191, rfl, by rw [if_pos h1], by omega, by omega, fun b => ?_⟩
    unfold two cont; rw [if_neg (by omega), if_pos h1, Bool.eq_iff_iff]; simp
  · rw [if_neg h1]
    by_cases h2 : a = 224
    · rw [if_pos h2]
      refine ⟨3, 160, 191, rfl, by rw [if_neg h1, if_pos (by omega)], by omega, by omega, fun b => ?_⟩
      unfold two cont; rw [if_neg (by omega), if_neg h1, if_pos h2, Bool.eq_iff_iff]; simp
    · rw [if_neg h2]
      by_cases h3 : a = 237
      · rw [if_pos h3]
        refine ⟨3, 128, 159, rfl, by rw [if_neg h1, if_pos (by omega)], by omega, by omega, fun b => ?_⟩
        unfold two cont; rw [if_neg (by omega), if_neg h1, if_neg h2, if_pos h3, Bool.eq_iff_iff]; simp
      · rw [if_neg h3]
        by_cases h4 : a = 240
        · rw [if_pos h4]
          refine ⟨4, 144, 191, rfl, by rw [if_neg h1, if_neg (by omega)], by omega, by omega, fun b => ?_⟩
          unfold two cont; rw [if_neg (by omega), if_neg h1, if_neg h2, if_neg h3, if_neg (by omega), if_pos h4, Bool.eq_iff_iff]; simp
        · rw [if_neg h4]
          by_cases h5 : a < 240
          · refine ⟨3, 128, 191, ?_, by rw [if_neg h1, if_pos h5], by omega, by omega, fun b => ?_⟩
            · rw [if_neg (by omega), if_neg (by omega), utf_lead.j1, if_neg (by simp; omega), if_neg (by omega)]
            · unfold two cont; rw [if_neg (by omega), if_neg h1, if_neg h2, if_neg h3, if_pos h5, Bool.eq_iff_iff]; simp
          · by_cases h6 : a < 244
            · refine ⟨4, 128, 191, ?_, by rw [if_neg h1, if_neg h5], by omega, by omega, fun b => ?_⟩
              · have h7 : a = 241 ∨ a = 242 ∨ a = 243 := by omega
                rcases h7 with rfl | rfl | rfl
                · rw [if_pos rfl, utf_lead.j1, if_pos (by simp)]
                · rw [if_neg (by omega), if_pos rfl, utf_lead.j1, if_pos (by simp)]
                · rw [if_neg (by omega), if_neg (by omega), utf_lead.j1, if_pos (by simp)]
              · unfold two cont; rw [if_neg (by omega), if_neg h1, if_neg h2, if_neg h3, if_neg h5, if_neg h4, if_pos h6, Bool.eq_iff_iff]; simp
            · refine ⟨4, 128, 143, ?_, by rw [if_neg h1, if_neg h5], by omega, by omega, fun b => ?_⟩
              · rw [if_neg (by omega), if_neg (by omega), utf_lead.j1, if_neg (by simp; omega), if_pos (by omega)]
              · unfold two cont; rw [if_neg (by omega), if_neg h1, if_neg h2, if_neg h3, if_neg h5, if_neg h4, if_neg h6, if_pos (by omega), Bool.eq_iff_iff]; simp
theorem p_w64 {x : Int} (h0 : -9223372036854775808 ≤ x) (h1 : x < 9223372036854775808) : wrap64 x = x := by unfold wrap64; omega
/-- One round of the program's parse: at the end; out of the bounds; on. -/
theorem p_end (k : Nat) (l : List Int) (n lo hi r : Int) (i : Nat) (h : (i : Int) < n) (hi2 : i = l.length) : utf_parse.l0 (k + 1) l n lo hi r (i : Int) = some (0, 0, true) := by
  rw [utf_parse.l0, if_pos h, if_pos (by omega)]
theorem p_bad (k : Nat) (l : List Int) (n lo hi r : Int) (i : Nat) (h : (i : Int) < n) (hi2 : i < l.length) (hb : (decide (lo ≤ rd l i) && decide (rd l i ≤ hi)) = false) : utf_parse.l0 (k + 1) l n lo hi r (i : Int) = some (65533, (i : Int), false) := by
  rw [utf_parse.l0, if_pos h, if_neg (by omega), if_pos (by omega), if_pos (by omega)]
  by_cases h1 : rd l i < lo
  · rw [if_pos h1]
  · rw [if_neg h1]
    by_cases h2 : rd l i > hi
    · rw [if_pos h2]
    · simp at hb; omega
theorem p_on (k : Nat) (l : List Int) (n lo hi r : Int) (i : Nat) (h : (i : Int) < n) (hi2 : i < l.length) (hb : lo ≤ rd l i ∧ rd l i ≤ hi) (h8 : 128 ≤ rd l i ∧ rd l i ≤ 191) (hr : 0 ≤ r ∧ r ≤ 100000) (hn : n ≤ 4) : utf_parse.l0 (k + 1) l n lo hi r (i : Int) = utf_parse.l0 k l n 128 191 (r * 64 + (rd l i - 128)) ((i + 1 : Nat) : Int) := by
  rw [utf_parse.l0, if_pos h, if_neg (by omega), if_pos (by omega), if_pos (by omega), if_neg (by omega), if_neg (by omega), and63 (by omega), w32 (x := r * 64) (by omega) (by omega), w32 (x := rd l i % 64) (by omega) (by omega), or64 (by omega) (by omega), p_w64 (by omega) (by omega), show rd l (i : Int) % 64 = rd l (i : Int) - 128 by omega, show (i : Int) + 1 = ((i + 1 : Nat) : Int) by omega]
theorem p_fin (k : Nat) (l : List Int) (n lo hi r : Int) (i : Nat) (h : n = (i : Int)) : utf_parse.l0 (k + 1) l n lo hi r (i : Int) = some (r, n, false) := by
  rw [utf_parse.l0, if_neg (by omega)]
theorem p_parse (l : List Int) (h8 : In8u l) (hne : l ≠ []) (k : Nat) (hk : 10 ≤ k) : utf_parse.f k l = some (parseZ l) := by
  obtain ⟨k, rfl⟩ : ∃ m, k = m + 5 := ⟨k - 5, by omega⟩
  match l, hne with
  | a :: t, _ =>
    have ha := h8 a (by simp)
    have r0 : rd (a :: t) 0 = a := rfl
    unfold utf_parse.f
    rw [if_pos (by first | (simp; done) | (simp; omega)), r0]
    simp only [parseZ]
    by_cases h1 : a < 128
    · rw [if_pos h1, show utf_lead.f (k + 5) a = some (1, 128, 191) by unfold utf_lead.f; rw [if_pos h1]]
      simp only [Option.bind_some]
      rw [if_pos (by omega), if_neg (by omega), w32 (by omega) (by omega)]
    · rw [if_neg h1]
      by_cases h2 : a < 194 ∨ 244 < a
      · have e : utf_lead.f (k + 5) a = some (0, 128, 191) := by
          unfold utf_lead.f
          rw [if_neg h1]
          by_cases h3 : a < 194
          · rw [if_pos h3, utf_lead.j0, if_pos rfl]
          · rw [if_neg h3, show decide (a > 244) = true by simp; omega, utf_lead.j0, if_pos rfl]
        rw [if_pos h2, e]
        simp only [Option.bind_some]
        rw [if_pos (by omega), if_pos trivial]
      · rw [if_neg h2]
        obtain ⟨n, lo, hi, e, hn, hlo, hhi, htwo⟩ := p_lead a (by omega) (k + 5) (by omega)
        have hn2 : 2 ≤ n ∧ n ≤ 4 := by rw [hn]; split <;> (try split) <;> omega
        rw [e]
        simp only [Option.bind_some]
        rw [if_neg (by omega), if_pos (by omega), w32 (x := a) (by omega) (by omega)]
        -- the head's own bits
        obtain ⟨r, hr⟩ : ∃ r, Go.bits .and .i32 a (shr .i32 127 n) = r := ⟨_, rfl⟩
        have hrv : r = if a < 224 then a - 192 else if a < 240 then a - 224 else a - 240 := by
          rw [← hr, hn]
          by_cases h3 : a < 224
          · rw [if_pos h3, if_pos h3, show shr .i32 127 2 = 31 by decide, and31 ha]; omega
          · rw [if_neg h3, if_neg h3]
            by_cases h4 : a < 240
            · rw [if_pos h4, if_pos h4, show shr .i32 127 3 = 15 by decide, and15 ha]; omega
            · rw [if_neg h4, if_neg h4, show shr .i32 127 4 = 7 by decide, and7 ha]; omega
        have hrb : 0 ≤ r ∧ r ≤ 31 := by rw [hrv]; split <;> (try split) <;> omega
        rw [hr]
        match t with
        | [] => exact p_end _ [a] n lo hi r 1 (by omega) rfl
        | b :: t =>
          have hb := h8 b (by simp)
          have r1 : rd (a :: b :: t) ((1 : Nat) : Int) = b := rfl
          dsimp only
          by_cases hT : two a b = true
          · rw [hT, if_neg (by simp)]
            have hT' := htwo b
            rw [hT] at hT'
            simp at hT'
            rw [show ((1 : Int)) = ((1 : Nat) : Int) from rfl, p_on (k + 4) _ n lo hi r 1 (by omega) (by simp) (by rw [r1]; omega) (by rw [r1]; omega) (by omega) (by omega), r1]
            by_cases h3 : a < 224
            · rw [if_pos h3] at hn hrv
              rw [if_pos h3, p_fin (k + 3) _ n _ _ _ 2 (by omega), hn, hrv]
            · rw [if_neg h3] at hn hrv
              rw [if_neg h3]
              match t with
              | [] => exact p_end _ [a, b] n 128 191 _ 2 (by split at hn <;> omega) rfl
              | c :: t =>
                have hc := h8 c (by simp)
                have r2 : rd (a :: b :: c :: t) ((2 : Nat) : Int) = c := rfl
                dsimp only
                by_cases hC : cont c = true
                · rw [hC, if_neg (by simp)]
                  rw [cont_iff] at hC
                  rw [p_on (k + 3) _ n 128 191 _ 2 (by split at hn <;> omega) (by simp) (by rw [r2]; omega) (by rw [r2]; omega) (by omega) (by omega), r2]
                  by_cases h4 : a < 240
                  · rw [if_pos h4] at hn hrv
                    rw [if_pos h4, p_fin (k + 2) _ n _ _ _ 3 (by omega), hn, hrv]
                    congr 2; omega
                  · rw [if_neg h4] at hn hrv
                    rw [if_neg h4]
                    match t with
                    | [] => exact p_end _ [a, b, c] n 128 191 _ 3 (by omega) rfl
                    | d :: t =>
                      have hd := h8 d (by simp)
                      have r3 : rd (a :: b :: c :: d :: t) ((3 : Nat) : Int) = d := rfl
                      dsimp only
                      by_cases hD : cont d = true
                      · rw [hD, if_neg (by simp)]
                        rw [cont_iff] at hD
                        rw [p_on (k + 2) _ n 128 191 _ 3 (by omega) (by simp) (by rw [r3]; omega) (by rw [r3]; omega) (by omega) (by omega), r3, p_fin (k + 1) _ n _ _ _ 4 (by omega), hn, hrv]
                        congr 2; omega
                      · rw [Bool.eq_false_iff.2 hD, if_pos rfl]
                        rw [cont_iff] at hD
                        exact p_bad _ _ n 128 191 _ 3 (by omega) (by simp) (by rw [r3]; simp; omega)
                · rw [Bool.eq_false_iff.2 hC, if_pos rfl]
                  rw [cont_iff] at hC
                  exact p_bad _ _ n 128 191 _ 2 (by split at hn <;> omega) (by simp) (by rw [r2]; simp; omega)
          · rw [Bool.eq_false_iff.2 hT, if_pos rfl]
            have hT' := htwo b
            rw [Bool.eq_false_iff.2 hT] at hT'
            exact p_bad _ _ n lo hi r 1 (by omega) (by simp) (by rw [r1]; exact hT'.symm)
theorem rAhead_l (a b : List Int) (ha : a.length ≤ 1000000) (hb : b.length ≤ 1000000) : ∀ (d i k : Nat), i + d = a.length → i ≤ b.length → 2 * d + 2 < k → prolepsisref02_ahead.l0 k a b (i : Int) = some (ahead (a.drop i) (b.drop i)) := by
  intro d
  induction d with
  | zero =>
    intro i k hi hib hk
    obtain ⟨k, rfl⟩ : ∃ m, k = m + 2 := ⟨k - 2, by omega⟩
    rw [prolepsisref02_ahead.l0, if_neg (by omega), prolepsisref02_ahead.j1, if_neg (by simp), List.drop_eq_nil_of_le (show a.length ≤ i by omega)]
    by_cases h : i < b.length
    · rw [drop_rd h]; simp [ahead]; omega
    · rw [List.drop_eq_nil_of_le (show b.length ≤ i by omega)]; simp [ahead]; omega
  | succ d ih =>
    intro i k hi hib hk
    obtain ⟨k, rfl⟩ : ∃ m, k = m + 2 := ⟨k - 2, by omega⟩
    rw [prolepsisref02_ahead.l0, if_pos (by omega), drop_rd (show i < a.length by omega)]
    by_cases h : i < b.length
    · rw [show decide ((i : Int) < (b.length : Int)) = true by simp; omega, prolepsisref02_ahead.j1, if_pos rfl, if_pos (by omega), if_pos (by omega), if_pos (by omega), w64 (by omega) (by omega), cast1, drop_rd h]
      simp only [ahead]
      by_cases e : rd a (i : Int) = rd b (i : Int)
      · rw [if_pos e, if_pos e, ih (i + 1) k (by omega) (by omega) (by omega)]
      · rw [if_neg e, if_neg e]
    · rw [show decide ((i : Int) < (b.length : Int)) = false by simp; omega, prolepsisref02_ahead.j1, if_neg (by simp), List.drop_eq_nil_of_le (show b.length ≤ i by omega)]
      simp [ahead]; omega
theorem rAhead_ok (a b : List Int) (ha : a.length ≤ 1000000) (hb : b.length ≤ 1000000) (k : Nat) (hk : 2 * a.length + 2 < k) : prolepsisref02_ahead.f k a b = some (ahead a b) := by
  unfold prolepsisref02_ahead.f
  have := rAhead_l a b ha hb a.length 0 k (by omega) (by omega) hk
  simpa using this
theorem rPre_l (p x : List Int) (hp : p.length ≤ 1000000) (hl : p.length ≤ x.length) : ∀ (d i k : Nat), i + d = p.length → d < k → prolepsisref02_within.l1 k p x (i : Int) = some (decide (p.drop i <+: x.drop i)) := by
  intro d
  induction d with
  | zero =>
    intro i k hi hk
    obtain ⟨k, rfl⟩ := kp hk
    rw [prolepsisref02_within.l1, if_neg (by omega), List.drop_eq_nil_of_le (show p.length ≤ i by omega)]
    simp
  | succ d ih =>
    intro i k hi hk
    obtain ⟨k, rfl⟩ := kp hk
    rw [prolepsisref02_within.l1, if_pos (by omega), if_pos (by omega), if_pos (by omega), w64 (by omega) (by omega), cast1, drop_rd (show i < p.length by omega), drop_rd (show i < x.length by omega)]
    by_cases e : rd x (i : Int) = rd p (i : Int)
    · rw [if_pos e, ih (i + 1) k (by omega) (by omega), e]
      congr 1
      rw [Bool.eq_iff_iff]
      simp [List.cons_prefix_cons]
    · rw [if_neg e]
      simp [List.cons_prefix_cons, Ne.symm e]

theorem scalar_mend {r : Int} (h : scalarZ r = true) : mend r = r := by unfold mend; rw [if_pos h]
/-- The search: p begins some scalar from lo to hi, all of them scalars. -/
theorem rWithin_l (p : List Int) (hp : p.length ≤ 4) (lo0 hi0 : Int) (h0 : 0 ≤ lo0) (hs : ∀ s, lo0 ≤ s → s ≤ hi0 → scalarZ s = true) : ∀ (d : Nat) (lo hi : Int) (k : Nat), lo0 ≤ lo → lo ≤ hi → hi ≤ hi0 → hi - lo < 2 ^ d → d + 20 < k →
    (∀ s, lo0 ≤ s → s < lo → ahead (enc s) p = true) → (hi = hi0 ∨ ahead (enc hi) p = false) →
    ∃ b, prolepsisref02_within.l0 k p lo hi = some b ∧ (b = true ↔ ∃ s, lo0 ≤ s ∧ s ≤ hi0 ∧ p <+: enc s) := by
  intro d
  induction d with
  | zero =>
    intro lo hi k h1 h2 h3 hd hk hlo hhi
    obtain ⟨k, rfl⟩ := kp hk
    obtain rfl : lo = hi := by simp at hd; omega
    have hsc := hs lo h1 h3
    rw [prolepsisref02_within.l0, if_neg (by omega), rBytes_ok _ k (by omega), scalar_mend hsc]
    simp only [Option.bind_some]
    have hup : ∀ s, lo0 ≤ s → s ≤ hi0 → p <+: enc s → p <+: enc lo := by
      intro s hs0 hs1 hpre
      have hge : lo ≤ s := by
        by_cases hlt : s < lo
        · have := hlo s hs0 hlt; rw [pre_ahead p _ hpre] at this; cases this
        · omega
      by_cases e : lo = s
      · rw [e]; exact hpre
      · have hsc2 := (scalar_iff s).1 (hs s hs0 hs1)
        rcases hhi with h | h
        · omega
        · exact pre_between p (enc lo) (enc s) h (enc_le lo s (by omega) hge (by omega)) hpre
    by_cases hl : ((enc lo).length : Int) < (p.length : Int)
    · rw [if_pos hl]
      refine ⟨false, rfl, by simp, ?_⟩
      rintro ⟨s, hs0, hs1, hpre⟩
      have := (hup s hs0 hs1 hpre).length_le
      omega
    · rw [if_neg hl]
      have := rPre_l p (enc lo) (by omega) (by omega) p.length 0 k (by omega) (by omega)
      refine ⟨_, by simpa using this, ?_⟩
      rw [decide_eq_true_iff]
      exact ⟨fun h => ⟨lo, h1, h3, h⟩, fun ⟨s, a, b, c⟩ => hup s a b c⟩
  | succ d ih =>
    intro lo hi k h1 h2 h3 hd hk hlo hhi
    have hsl := (scalar_iff lo).1 (hs lo h1 (by omega))
    have hsh := (scalar_iff hi).1 (hs hi (by omega) h3)
    by_cases e : lo < hi
    · obtain ⟨k, rfl⟩ := kp hk
      have hm0 : lo ≤ (lo + hi) / 2 := by omega
      have hm1 : (lo + hi) / 2 < hi := by omega
      have hsc := hs ((lo + hi) / 2) (by omega) (by omega)
      have hel := enc_len ((lo + hi) / 2)
      rw [prolepsisref02_within.l0, if_pos e, w64 (x := lo + hi) (by omega) (by omega), td (by omega), w64 (x := (lo + hi) / 2) (by omega) (by omega), rBytes_ok _ k (by omega), scalar_mend hsc]
      simp only [Option.bind_some]
      rw [rAhead_ok _ _ (by omega) (by omega) k (by omega)]
      simp only [Option.bind_some]
      have hp2 : (2 : Int) ^ (d + 1) = 2 * 2 ^ d := by rw [Int.pow_succ]; omega
      rw [hp2] at hd
      cases ha : ahead (enc ((lo + hi) / 2)) p
      · rw [if_neg (by simp)]
        exact ih lo ((lo + hi) / 2) k h1 hm0 (by omega) (by omega) (by omega) hlo (.inr ha)
      · rw [if_pos rfl, w64 (by omega) (by omega)]
        refine ih ((lo + hi) / 2 + 1) hi k (by omega) (by omega) h3 (by omega) (by omega) ?_ hhi
        intro s hs0 hs1
        have hss := (scalar_iff s).1 (hs s hs0 (by omega))
        cases hb : ahead (enc s) p
        · have := ahead_trans (enc ((lo + hi) / 2)) (enc s) p (enc_le s ((lo + hi) / 2) (by omega) (by omega) (by omega)) hb
          rw [ha] at this; cases this
        · rfl
    · obtain rfl : lo = hi := by omega
      exact ih lo lo k h1 (Int.le_refl _) h3 (by rw [Int.sub_self]; exact Int.pow_pos (by decide)) (by omega) hlo hhi
theorem rBegins_ok (p : List Int) (h8 : In8u p) (k : Nat) (hk : 60 < k) : prolepsisref02_begins.f k p = some (begZ p) := by
  unfold prolepsisref02_begins.f
  by_cases hp : (p.length : Int) ≤ 4
  · rw [if_pos hp]
    obtain ⟨b1, e1, i1⟩ := rWithin_l p (by omega) 0 55295 (by omega) (fun s a b => (scalar_iff s).2 (by omega)) 21 0 55295 k (by omega) (by omega) (by omega) (by decide) (by omega) (fun s a b => by omega) (.inl rfl)
    obtain ⟨b2, e2, i2⟩ := rWithin_l p (by omega) 57344 1114111 (by omega) (fun s a b => (scalar_iff s).2 (by omega)) 21 57344 1114111 k (by omega) (by omega) (by omega) (by decide) (by omega) (fun s a b => by omega) (.inl rfl)
    unfold prolepsisref02_within.f
    rw [e1, e2]
    simp only [Option.bind_some]
    have key : begZ p = (b1 || b2) := by
      rw [Bool.eq_iff_iff, Bool.or_eq_true, i1, i2]
      constructor
      · intro h
        obtain ⟨s, hs, hpre⟩ := begins_enc p h8 h
        rcases (scalar_iff s).1 hs with a | a
        · exact .inl ⟨s, a.1, a.2, hpre⟩
        · exact .inr ⟨s, a.1, a.2, hpre⟩
      · rintro (⟨s, a, b, hpre⟩ | ⟨s, a, b, hpre⟩) <;> exact enc_begins s ((scalar_iff s).2 (by omega)) p hpre
    rw [key]
    cases b1 <;> simp
  · rw [if_neg hp]
    match p, hp with
    | [], h => simp at h
    | [_], h => simp at h
    | [_, _], h => simp at h
    | [_, _, _], h => simp at h
    | [_, _, _, _], h => simp at h
    | _ :: _ :: _ :: _ :: _ :: _, _ => rfl
theorem takeS (l : List Int) (n : Nat) (h : n < l.length) : l.take (wrap64 ((n : Int) + 1)).toNat = l.take (n + 1) ∧ wrap64 ((n : Int) + 1) = ((n + 1 : Nat) : Int) ∨ 9223372036854775807 ≤ n := by
  by_cases hn : 9223372036854775807 ≤ n
  · exact .inr hn
  · rw [w64 (by omega) (by omega)]; exact .inl ⟨by rw [show ((n : Int) + 1).toNat = n + 1 by omega], by omega⟩
theorem rScal (l : List Int) (h8 : In8u l) (hne : l ≠ []) : prolepsisref02_scalar.f l = some (scalV l, scalB l) := by
  unfold prolepsisref02_scalar.f
  rw [if_pos ⟨hne, List.all_eq_true.2 (fun x hx => decide_eq_true (h8 x hx))⟩]
theorem rF_end (k : Nat) (l : List Int) (n : Nat) (h : n = l.length) : prolepsisref02_First.l0 (k + 2) l (n : Int) = some (0, 0) := by
  rw [prolepsisref02_First.l0, if_neg (by omega), prolepsisref02_First.j1, if_neg (by simp), if_pos (by omega)]
theorem rF_stop (k : Nat) (l : List Int) (n : Nat) (h8 : In8u l) (h : n < l.length) (hl : l.length ≤ 1000000) (hk : 60 ≤ k) (hb : begZ (l.take (n + 1)) = false) : prolepsisref02_First.l0 (k + 2) l (n : Int) = some (65533, if n = 0 then 1 else (n : Int)) := by
  obtain ⟨e1, e2⟩ := (takeS l n h).resolve_right (by omega)
  rw [prolepsisref02_First.l0, if_pos (by omega), e1, e2, if_pos (by omega), if_pos (by omega), rBegins_ok (l.take (n + 1)) (fun x hx => h8 x (List.mem_of_mem_take hx)) (k + 1) (by omega), hb]
  simp only [Option.bind_some]
  rw [prolepsisref02_First.j1, if_neg (by simp), if_neg (by omega)]
  by_cases e : n = 0
  · rw [if_pos (by omega), if_pos e]
  · rw [if_neg (by omega), if_neg e]
theorem rF_j1 (k : Nat) (l : List Int) (n : Nat) (h8 : In8u l) (h : n < l.length) (hl : l.length ≤ 1000000) : prolepsisref02_First.j1 (k + 1) l (n : Int) true = (if scalB (l.take (n + 1)) = true then some (scalV (l.take (n + 1)), ((n + 1 : Nat) : Int)) else prolepsisref02_First.l0 k l ((n + 1 : Nat) : Int)) := by
  obtain ⟨e1, e2⟩ := (takeS l n h).resolve_right (by omega)
  have hs := rScal (l.take (n + 1)) (fun x hx => h8 x (List.mem_of_mem_take hx)) (by intro e; rw [List.take_eq_nil_iff] at e; rcases e with e | e; exact absurd e (by omega); rw [e] at h; exact absurd h (by simp))
  have g1 : (0 : Int) ≤ ((n + 1 : Nat) : Int) := by omega
  have g2 : ((n + 1 : Nat) : Int) ≤ (l.length : Int) := by omega
  rw [prolepsisref02_First.j1, if_pos (show true = true from rfl), e1, e2, if_pos g1, if_pos g2, hs, Option.bind_some]
theorem rF_go (k : Nat) (l : List Int) (n : Nat) (h8 : In8u l) (h : n < l.length) (hl : l.length ≤ 1000000) (hk : 60 ≤ k) (hb : begZ (l.take (n + 1)) = true) : prolepsisref02_First.l0 (k + 2) l (n : Int) = (if scalB (l.take (n + 1)) = true then some (scalV (l.take (n + 1)), ((n + 1 : Nat) : Int)) else prolepsisref02_First.l0 k l ((n + 1 : Nat) : Int)) := by
  obtain ⟨e1, e2⟩ := (takeS l n h).resolve_right (by omega)
  have g0 : (n : Int) < (l.length : Int) := by omega
  have g1 : (0 : Int) ≤ ((n + 1 : Nat) : Int) := by omega
  have g2 : ((n + 1 : Nat) : Int) ≤ (l.length : Int) := by omega
  have hs := rBegins_ok (l.take (n + 1)) (fun x hx => h8 x (List.mem_of_mem_take hx)) (k + 1) (by omega)
  rw [← rF_j1 k l n h8 h hl, prolepsisref02_First.l0, if_pos g0, e1, e2, if_pos g1, if_pos g2, hs, hb, Option.bind_some]
theorem beg1 (a : Int) (h0 : 0 ≤ a) : begZ [a] = decide (a < 128 ∨ 194 ≤ a ∧ a ≤ 244) := by simp [begZ]
def firstZ (l : List Int) : Int × Int := if (parseZ l).2.2 = true then (0, 0) else ((parseZ l).1, (parseZ l).2.1)
theorem rFirst_ok (l : List Int) (h8 : In8u l) (hl : l.length ≤ 1000000) (k : Nat) (hk : 80 ≤ k) : prolepsisref02_First.f k l = some (firstZ l) := by
  obtain ⟨k, rfl⟩ : ∃ m, k = m + 10 := ⟨k - 10, by omega⟩
  unfold prolepsisref02_First.f firstZ
  cases l with
  | nil => rfl
  | cons a t =>
    have ha := h8 a (by simp)
    have hl0 : 0 < (a :: t).length := by simp
    obtain ⟨p, hp⟩ : ∃ p, parseZ (a :: t) = p := ⟨_, rfl⟩
    rw [hp]
    simp only [parseZ] at hp
    rw [show prolepsisref02_First.l0 (k + 10) (a :: t) 0 = prolepsisref02_First.l0 (k + 8 + 2) (a :: t) ((0 : Nat) : Int) from rfl]
    have tk1 : (a :: t).take (0 + 1) = [a] := rfl
    by_cases h1 : a < 128
    · rw [if_pos h1] at hp
      rw [rF_go (k + 8) (a :: t) 0 h8 hl0 hl (by omega) (by rw [tk1, beg1 _ ha.1]; simp [h1]), tk1, if_pos (by rw [scal1 ha]; simp [h1]), ← hp]
      rfl
    rw [if_neg h1] at hp
    by_cases h2 : a < 194 ∨ 244 < a
    · rw [if_pos h2] at hp
      rw [rF_stop (k + 8) (a :: t) 0 h8 hl0 hl (by omega) (by rw [tk1, beg1 _ ha.1, decide_eq_false_iff_not]; omega), ← hp]
      rfl
    rw [if_neg h2] at hp
    rw [rF_go (k + 8) (a :: t) 0 h8 hl0 hl (by omega) (by rw [tk1, beg1 _ ha.1, decide_eq_true_iff]; omega), tk1, if_neg (by rw [scal1 ha]; simp; omega)]
    cases t with
    | nil => rw [← hp, rF_end (k + 6) [a] (0 + 1) rfl]; rfl
    | cons b t =>
      dsimp only at hp
      have tk2 : (a :: b :: t).take (0 + 1 + 1) = [a, b] := rfl
      have hl1 : 0 + 1 < (a :: b :: t).length := by simp
      by_cases h3 : two a b = true
      · rw [h3, if_neg (by simp)] at hp
        rw [rF_go (k + 6) (a :: b :: t) (0 + 1) h8 hl1 hl (by omega) (by rw [tk2]; exact h3), tk2]
        by_cases h4 : a < 224
        · rw [if_pos h4] at hp
          rw [if_pos (by rw [scal2 h3]; simp [h4]), ← hp, show scalV [a, b] = (a - 192) * 64 + b - 128 from rfl, show (a - 192) * 64 + (b - 128) = (a - 192) * 64 + b - 128 by omega]
          rfl
        rw [if_neg h4] at hp
        rw [if_neg (by rw [scal2 h3]; simp [h4])]
        cases t with
        | nil => rw [← hp, rF_end (k + 4) [a, b] (0 + 1 + 1) rfl]; rfl
        | cons c t =>
          dsimp only at hp
          have tk3 : (a :: b :: c :: t).take (0 + 1 + 1 + 1) = [a, b, c] := rfl
          have hl2 : 0 + 1 + 1 < (a :: b :: c :: t).length := by simp
          by_cases h5 : cont c = true
          · rw [h5, if_neg (by simp)] at hp
            rw [rF_go (k + 4) (a :: b :: c :: t) (0 + 1 + 1) h8 hl2 hl (by omega) (by rw [tk3]; simp [begZ, h3, h5]; omega), tk3]
            by_cases h6 : a < 240
            · rw [if_pos h6] at hp
              rw [if_pos (by rw [scal3 h3 (by omega) h5]; simp [h6]), ← hp, show scalV [a, b, c] = (a - 224) * 4096 + (b - 128) * 64 + c - 128 from rfl, show (a - 224) * 4096 + (b - 128) * 64 + (c - 128) = (a - 224) * 4096 + (b - 128) * 64 + c - 128 by omega]
              rfl
            rw [if_neg h6] at hp
            rw [if_neg (by rw [scal3 h3 (by omega) h5]; simp [h6])]
            cases t with
            | nil => rw [← hp, rF_end (k + 2) [a, b, c] (0 + 1 + 1 + 1) rfl]; rfl
            | cons d t =>
              dsimp only at hp
              have tk4 : (a :: b :: c :: d :: t).take (0 + 1 + 1 + 1 + 1) = [a, b, c, d] := rfl
              have hl3 : 0 + 1 + 1 + 1 < (a :: b :: c :: d :: t).length := by simp
              by_cases h7 : cont d = true
              · rw [h7, if_neg (by simp)] at hp
                rw [rF_go (k + 2) (a :: b :: c :: d :: t) (0 + 1 + 1 + 1) h8 hl3 hl (by omega) (by rw [tk4]; simp [begZ, h3, h5, h7]; omega), tk4, if_pos (scal4 h3 (by omega) h5 h7), ← hp, show scalV [a, b, c, d] = (a - 240) * 262144 + (b - 128) * 4096 + (c - 128) * 64 + d - 128 from rfl, show (a - 240) * 262144 + (b - 128) * 4096 + (c - 128) * 64 + (d - 128) = (a - 240) * 262144 + (b - 128) * 4096 + (c - 128) * 64 + d - 128 by omega]
                rfl
              · rw [Bool.eq_false_iff.2 h7, if_pos rfl] at hp
                rw [rF_stop (k + 2) (a :: b :: c :: d :: t) (0 + 1 + 1 + 1) h8 hl3 hl (by omega) (by rw [tk4]; simp [begZ, h7]), ← hp]
                rfl
          · rw [Bool.eq_false_iff.2 h5, if_pos rfl] at hp
            rw [rF_stop (k + 4) (a :: b :: c :: t) (0 + 1 + 1) h8 hl2 hl (by omega) (by rw [tk3]; simp [begZ, h5]), ← hp]
            rfl
      · rw [Bool.eq_false_iff.2 h3, if_pos rfl] at hp
        rw [rF_stop (k + 6) (a :: b :: t) (0 + 1) h8 hl1 hl (by omega) (by rw [tk2]; exact Bool.eq_false_iff.2 h3), ← hp]
        rfl
/-- What is cut: the scalars, and what is held. -/
def cutN : Nat → List Int → List Int × List Int
  | 0, l => ([], l)
  | _, [] => ([], [])
  | n + 1, l => if (parseZ l).2.2 = true then ([], l) else ((parseZ l).1 :: (cutN n (l.drop (parseZ l).2.1.toNat)).1, (cutN n (l.drop (parseZ l).2.1.toNat)).2)
theorem cut_runes : ∀ (n : Nat) (l : List Int), l.length ≤ n → runesZ l = (cutN n l).1 ++ (if (cutN n l).2 = [] then [] else [65533]) := by
  intro n
  induction n with
  | zero => intro l h; rw [List.eq_nil_of_length_eq_zero (Nat.le_zero.1 h)]; rfl
  | succ n ih =>
    intro l hl
    match l with
    | [] => rfl
    | a :: t =>
      rw [runesZ_cons, cutN]
      · by_cases hb : (parseZ (a :: t)).2.2 = true
        · rw [if_pos hb, if_pos hb]; rfl
        · have hp := parseZ_pos a t (Bool.eq_false_iff.2 hb)
          rw [if_neg hb, if_neg hb, ih _ (by rw [List.length_drop]; omega)]
          rfl
      · simp
theorem cut_len : ∀ (n : Nat) (l : List Int), (cutN n l).1.length ≤ n := by
  intro n
  induction n with
  | zero => intro l; simp [cutN]
  | succ n ih =>
    intro l
    match l with
    | [] => simp [cutN]
    | a :: t =>
      rw [cutN]
      · split
        · simp
        · have := ih ((a :: t).drop (parseZ (a :: t)).2.1.toNat); simp; exact this
      · simp
theorem rCut_l : ∀ (n : Nat) (l out : List Int) (k : Nat), l.length ≤ n → In8u l → out.length + n ≤ 1000000 → n + 90 ≤ k → prolepsisref02_Cut.l0 k l out = some (out ++ (cutN n l).1, (cutN n l).2) := by
  intro n
  induction n with
  | zero =>
    intro l out k hl h8 ho hk
    obtain ⟨k, rfl⟩ : ∃ m, k = m + 1 := ⟨k - 1, by omega⟩
    rw [List.eq_nil_of_length_eq_zero (Nat.le_zero.1 hl), prolepsisref02_Cut.l0, if_neg (by simp)]
    simp [cutN]
  | succ n ih =>
    intro l out k hl h8 ho hk
    obtain ⟨k, rfl⟩ : ∃ m, k = m + 1 := ⟨k - 1, by omega⟩
    match l with
    | [] => rw [prolepsisref02_Cut.l0, if_neg (by simp)]; simp [cutN]
    | a :: t =>
      rw [prolepsisref02_Cut.l0, if_pos (by simp only [List.length_cons]; omega), rFirst_ok _ h8 (by omega) k (by omega), cutN]
      · simp only [Option.bind_some]
        unfold firstZ
        by_cases hb : (parseZ (a :: t)).2.2 = true
        · rw [if_pos hb, if_pos hb, if_pos rfl, List.append_nil]
        · have hp := parseZ_pos a t (Bool.eq_false_iff.2 hb)
          rw [if_neg hb, if_neg hb, if_neg (by dsimp only; omega), if_pos (by omega), if_pos (by dsimp only; omega), if_pos (by dsimp only; omega), ih _ _ k (by rw [List.length_drop]; omega) (fun x hx => h8 x (List.mem_of_mem_drop hx)) (by simp only [List.length_append, List.length_cons, List.length_nil]; omega) (by omega)]
          rw [List.append_assoc, List.singleton_append]
      · simp
theorem rCut_ok (l : List Int) (h8 : In8u l) (hl : l.length ≤ 1000000) (k : Nat) (hk : l.length + 90 ≤ k) : prolepsisref02_Cut.f k l = some (cutN l.length l) := by
  unfold prolepsisref02_Cut.f
  rw [rCut_l l.length l [] k (Nat.le_refl _) h8 (by simp; omega) hk]
  rfl
theorem parse_app (l t : List Int) (h : (parseZ l).2.2 = false) : parseZ (l ++ t) = parseZ l := by
  match l with
  | [] => simp [parseZ] at h
  | [a] => simp only [parseZ, List.cons_append, List.nil_append] at *; split <;> (try rfl) <;> split <;> simp_all
  | [a, b] =>
    simp only [parseZ, List.cons_append, List.nil_append] at *
    repeat' split
    all_goals simp_all
  | [a, b, c] =>
    simp only [parseZ, List.cons_append, List.nil_append] at *
    repeat' split
    all_goals simp_all
  | a :: b :: c :: d :: l => simp only [parseZ, List.cons_append] at *
theorem parse_more3 (l : List Int) (h : (parseZ l).2.2 = true) : l.length ≤ 3 := by
  match l with
  | [] => simp
  | [a] => simp
  | [a, b] => simp
  | [a, b, c] => simp
  | a :: b :: c :: d :: l =>
    simp only [parseZ] at h
    split at h
    · cases h
    · split at h
      · cases h
      · split at h
        · cases h
        · split at h
          · cases h
          · split at h
            · cases h
            · split at h
              · cases h
              · split at h <;> cases h
theorem cut_len2 : ∀ (n m : Nat) (l : List Int), l.length ≤ n → l.length ≤ m → cutN n l = cutN m l := by
  intro n
  induction n with
  | zero =>
    intro m l hn hm
    have : l = [] := List.eq_nil_of_length_eq_zero (by omega)
    subst this
    cases m <;> rfl
  | succ n ih =>
    intro m l hn hm
    match l with
    | [] => cases m <;> rfl
    | a :: t =>
      obtain ⟨m, rfl⟩ : ∃ k, m = k + 1 := ⟨m - 1, by simp at hm; omega⟩
      rw [cutN, cutN]
      · by_cases hb : (parseZ (a :: t)).2.2 = true
        · rw [if_pos hb, if_pos hb]
        · have hp := parseZ_pos a t (Bool.eq_false_iff.2 hb)
          rw [if_neg hb, if_neg hb, ih m _ (by rw [List.length_drop]; omega) (by rw [List.length_drop]; omega)]
      · simp
      · simp
def cutZ (l : List Int) : List Int × List Int := cutN l.length l
theorem cutZ_nil : cutZ [] = ([], []) := rfl
theorem cutZ_more {l : List Int} (h : (parseZ l).2.2 = true) : cutZ l = ([], l) := by
  match l with
  | [] => rfl
  | a :: t =>
    unfold cutZ
    rw [List.length_cons, cutN]
    · rw [if_pos h]
    · simp
theorem cutZ_on {l : List Int} (hne : l ≠ []) (h : (parseZ l).2.2 = false) : cutZ l = ((parseZ l).1 :: (cutZ (l.drop (parseZ l).2.1.toNat)).1, (cutZ (l.drop (parseZ l).2.1.toNat)).2) := by
  match l, hne with
  | a :: t, _ =>
    have hp := parseZ_pos a t h
    unfold cutZ
    rw [List.length_cons, cutN]
    · rw [if_neg (by rw [h]; simp), cut_len2 t.length ((a :: t).drop (parseZ (a :: t)).2.1.toNat).length _ (by rw [List.length_drop, List.length_cons]; omega) (Nat.le_refl _)]
    · simp
theorem cut_app : ∀ (n : Nat) (a b : List Int), a.length ≤ n → cutZ (a ++ b) = ((cutZ a).1 ++ (cutZ ((cutZ a).2 ++ b)).1, (cutZ ((cutZ a).2 ++ b)).2) := by
  intro n
  induction n with
  | zero => intro a b h; rw [List.eq_nil_of_length_eq_zero (Nat.le_zero.1 h)]; rfl
  | succ n ih =>
    intro a b h
    match a with
    | [] => rfl
    | x :: t =>
      by_cases hb : (parseZ (x :: t)).2.2 = true
      · rw [cutZ_more hb]; rfl
      · have hb := Bool.eq_false_iff.2 hb
        have hp := parseZ_pos x t hb
        have hpa := parse_app (x :: t) b hb
        rw [cutZ_on (l := x :: t) (by simp) hb, cutZ_on (l := x :: t ++ b) (by simp) (by rw [hpa]; exact hb), hpa, List.drop_append_of_le_length (by omega), ih _ b (by rw [List.length_drop]; omega)]
        rfl
theorem cut_held : ∀ (n : Nat) (l : List Int), l.length ≤ n → (cutZ l).2.length ≤ 3 ∧ (cutZ l).2 <:+ l := by
  intro n
  induction n with
  | zero => intro l h; rw [List.eq_nil_of_length_eq_zero (Nat.le_zero.1 h)]; exact ⟨by simp [cutZ_nil], by simp [cutZ_nil]⟩
  | succ n ih =>
    intro l h
    match l with
    | [] => exact ⟨by simp [cutZ_nil], by simp [cutZ_nil]⟩
    | a :: t =>
      by_cases hb : (parseZ (a :: t)).2.2 = true
      · rw [cutZ_more hb]; exact ⟨parse_more3 _ hb, List.suffix_refl _⟩
      · have hb := Bool.eq_false_iff.2 hb
        have hp := parseZ_pos a t hb
        rw [cutZ_on (by simp) hb]
        have := ih ((a :: t).drop (parseZ (a :: t)).2.1.toNat) (by rw [List.length_drop]; omega)
        exact ⟨this.1, this.2.trans (List.drop_suffix _ _)⟩
theorem cutZ_len (l : List Int) : (cutZ l).1.length ≤ l.length := cut_len _ _
theorem cutZ_runes (l : List Int) : runesZ l = (cutZ l).1 ++ (if (cutZ l).2 = [] then [] else [65533]) := cut_runes _ _ (Nat.le_refl _)
theorem cutZ_in8 {l : List Int} (h : In8u l) : In8u (cutZ l).2 := fun x hx => h x ((cut_held l.length l (Nat.le_refl _)).2.subset hx)
/-- What a stream has told behind some bytes, and holds; more bytes are fed. -/
theorem cut_feed (b : List Int) (i j : Nat) (hij : i ≤ j) (hj : j ≤ b.length) : cutZ (b.take j) = ((cutZ (b.take i)).1 ++ (cutZ ((cutZ (b.take i)).2 ++ (b.drop i).take (j - i))).1, (cutZ ((cutZ (b.take i)).2 ++ (b.drop i).take (j - i))).2) := by
  have e : b.take j = b.take i ++ (b.drop i).take (j - i) := by
    rw [← List.take_append_drop i (b.take j), List.take_take, Nat.min_eq_left hij, List.drop_take]
  rw [e, cut_app _ _ _ (Nat.le_refl _)]
end Go.Proofs.Ytlllbaieidbcdaa.Str
