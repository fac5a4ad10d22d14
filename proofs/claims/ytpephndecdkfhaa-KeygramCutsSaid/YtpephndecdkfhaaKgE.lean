/- The bytes of a gram, parsed: whole, with more behind, cut short. Plain Lean. -/
import Derived.Test.YtpephndecdkfhaaKgP
namespace Go.Proofs.Ytpephndecdkfhaa
open Go.RowKit Go.Proofs.YtpephndecdkfhaaW.PrintWords Go.Proofs.YtpephndecdkfhaaW.PrintLast Go.Proofs.YtpephndecdkfhaaW.PrintMore
set_option linter.unusedVariables false
set_option linter.unusedSimpArgs false
theorem rd_whole {x : Int} (h0 : 0 ≤ x) (h1 : x < 18446744073709551616) (r : List Int) : rdNum 0 0 (encN x ++ r) = (x, ((encN x).length : Int), 0) := by
  have := rdNum_encN x r 0 0 h0 (by omega) (fun h => by omega) (by omega)
  rw [this]; simp
theorem number_whole {x : Int} (h0 : 0 ≤ x) (h1 : x < 18446744073709551616) (r : List Int) (t : Int) : (RS.number ⟨encN x ++ r, t, 0⟩) = (⟨r, t + (encN x).length, 0⟩, x) := by
  unfold RS.number
  simp [rd_whole h0 h1 r]
theorem up_whole {x m e : Int} (h0 : 0 ≤ x) (h1 : x ≤ m) (hm : m < 18446744073709551616) (r : List Int) (t : Int) : (RS.up ⟨encN x ++ r, t, 0⟩ m e) = (⟨r, t + (encN x).length, 0⟩, x) := by
  rw [RS.up_yes rfl (by rw [number_whole h0 (by omega)]) (by rw [number_whole h0 (by omega)]; exact ⟨by omega, h1⟩), number_whole h0 (by omega)]
theorem take_whole (k r : List Int) (t : Int) : (RS.take ⟨k ++ r, t, 0⟩ (k.length : Int)) = (⟨r, t + k.length, 0⟩, k) := by
  unfold RS.take
  simp
  omega
/-- A reader behind what was cut short. -/
def Bad (s : RS) : Prop := s.e = 4
theorem bad_number {s : RS} (h : Bad s) : s.number = (s, 0) := by unfold RS.number; rw [if_neg (by rw [h]; decide)]
theorem bad_up {s : RS} (h : Bad s) (m e : Int) : s.up m e = (s, 0) := RS.up_e (by rw [h]; decide)
theorem bad_take {s : RS} (h : Bad s) (n : Int) : s.take n = (s, []) := by unfold RS.take; rw [if_neg (by rw [h]; decide)]
theorem bad_done {s : RS} (h : Bad s) : s.done = 4 := by unfold RS.done; rw [if_neg (by rw [h]; decide)]; exact h
theorem number_cut {x : Int} (h0 : 0 ≤ x) (h1 : x < 18446744073709551616) (r : List Int) (t : Int) (m : Nat) (hm : m < (encN x ++ r).length) :
    (∃ m' t', m' < r.length ∧ RS.number ⟨(encN x ++ r).take m, t, 0⟩ = (⟨r.take m', t', 0⟩, x)) ∨ (Bad (RS.number ⟨(encN x ++ r).take m, t, 0⟩).1) := by
  by_cases hc : m < (encN x).length
  · right
    have : (encN x ++ r).take m = (encN x).take m := by rw [List.take_append_of_le_length (by omega)]
    rw [this]
    unfold RS.number Bad
    have hs := rdNum_short x m 0 0 h0 (by omega) (fun h => by omega) (by omega) hc
    simp [hs]
  · left
    refine ⟨m - (encN x).length, t + (encN x).length, by rw [List.length_append] at hm; omega, ?_⟩
    rw [List.take_append, List.take_of_length_le (by omega)]
    exact number_whole h0 h1 _ t
theorem up_cut {x mo e : Int} (h0 : 0 ≤ x) (h1 : x ≤ mo) (hmo : mo < 18446744073709551616) (r : List Int) (t : Int) (m : Nat) (hm : m < (encN x ++ r).length) :
    (∃ m' t', m' < r.length ∧ RS.up ⟨(encN x ++ r).take m, t, 0⟩ mo e = (⟨r.take m', t', 0⟩, x)) ∨ (Bad (RS.up ⟨(encN x ++ r).take m, t, 0⟩ mo e).1 ∧ (RS.up ⟨(encN x ++ r).take m, t, 0⟩ mo e).2 = 0) := by
  rcases number_cut h0 (by omega) r t m hm with ⟨m', t', hm', hn⟩ | hb
  · left
    exact ⟨m', t', hm', by rw [RS.up_yes rfl (by rw [hn]) (by rw [hn]; exact ⟨by omega, h1⟩), hn]⟩
  · right
    have he : ¬ (RS.number ⟨(encN x ++ r).take m, t, 0⟩).1.e = 0 := by rw [hb]; decide
    rw [RS.up_bad rfl he]
    exact ⟨hb, rfl⟩
theorem take_cut (k r : List Int) (t : Int) (m : Nat) (hm : m < (k ++ r).length) :
    (∃ m' t', m' < r.length ∧ RS.take ⟨(k ++ r).take m, t, 0⟩ (k.length : Int) = (⟨r.take m', t', 0⟩, k)) ∨ (Bad (RS.take ⟨(k ++ r).take m, t, 0⟩ (k.length : Int)).1) := by
  by_cases hc : m < k.length
  · right
    unfold RS.take Bad
    rw [if_pos rfl, if_neg (by rw [List.length_take, List.length_append]; omega)]
  · left
    refine ⟨m - k.length, t + k.length, by rw [List.length_append] at hm; omega, ?_⟩
    rw [List.take_append, List.take_of_length_le (by omega)]
    exact take_whole k _ t
theorem key_whole {k : List Int} (hk : 1 ≤ k.length ∧ k.length ≤ 8) (r : List Int) (t : Int) : ∃ t', kKey ⟨gkey k ++ r, t, 0⟩ = (⟨r, t', 0⟩, k) := by
  unfold gkey kKey
  have hu : RS.up ⟨encN (k.length : Int) ++ k ++ r, t, 0⟩ 8 5 = (⟨k ++ r, t + (encN (k.length : Int)).length, 0⟩, (k.length : Int)) := by
    rw [List.append_assoc]; exact up_whole (by omega) (by omega) (by decide) _ t
  rw [kU_ok (by rw [hu]; intro h; have := h.2; simp at this; omega), hu]
  exact ⟨_, take_whole k r _⟩
theorem key_cut {k : List Int} (hk : 1 ≤ k.length ∧ k.length ≤ 8) (r : List Int) (t : Int) (m : Nat) (hm : m < (gkey k ++ r).length) :
    (∃ m' t', m' < r.length ∧ kKey ⟨(gkey k ++ r).take m, t, 0⟩ = (⟨r.take m', t', 0⟩, k)) ∨ (Bad (kKey ⟨(gkey k ++ r).take m, t, 0⟩).1) := by
  unfold gkey at hm ⊢
  rw [List.append_assoc] at hm ⊢
  rcases up_cut (e := 5) (mo := 8) (x := (k.length : Int)) (by omega) (by omega) (by decide) (k ++ r) t m hm with ⟨m', t', hm', hu⟩ | ⟨hb, h0⟩
  · unfold kKey
    rw [kU_ok (by rw [hu]; intro h; have := h.2; simp at this; omega), hu]
    exact take_cut k r t' m' hm'
  · right
    unfold kKey
    rw [kU_ok (by intro h; have h4 := h.1; rw [hb] at h4; cases h4), bad_take hb]
    exact hb
theorem gkeys_whole : ∀ {keys : List (List Int)} (h : ∀ k ∈ keys, 1 ≤ k.length ∧ k.length ≤ 8) (r : List Int) (t : Int) (ks : List (List Int)), ∃ t', gkeys keys.length ⟨keys.flatMap gkey ++ r, t, 0⟩ ks = (ks ++ keys, ⟨r, t', 0⟩)
  | [], _, r, t, ks => ⟨t, by simp [gkeys]⟩
  | k :: l, h, r, t, ks => by
    obtain ⟨t1, h1⟩ := key_whole (h k (by simp)) (l.flatMap gkey ++ r) t
    obtain ⟨t2, h2⟩ := gkeys_whole (keys := l) (fun x hx => h x (List.mem_cons_of_mem _ hx)) r t1 (ks ++ [k])
    refine ⟨t2, ?_⟩
    rw [List.flatMap_cons, List.append_assoc, List.length_cons, gkeys, h1, if_pos rfl, h2, List.append_assoc]
    rfl
theorem gkeys_cut : ∀ {keys : List (List Int)} (h : ∀ k ∈ keys, 1 ≤ k.length ∧ k.length ≤ 8) (t : Int) (ks : List (List Int)) (m : Nat) (hm : m < (keys.flatMap gkey).length), Bad (gkeys keys.length ⟨(keys.flatMap gkey).take m, t, 0⟩ ks).2
  | [], _, t, ks, m, hm => by simp at hm
  | k :: l, h, t, ks, m, hm => by
    rw [List.flatMap_cons] at hm ⊢
    rw [List.length_cons, gkeys]
    rcases key_cut (h k (by simp)) (l.flatMap gkey) t m hm with ⟨m', t', hm', hk⟩ | hb
    · rw [hk, if_pos rfl]
      exact gkeys_cut (keys := l) (fun x hx => h x (List.mem_cons_of_mem _ hx)) t' _ m' hm'
    · rw [if_neg (by rw [hb]; decide)]
      exact hb
/-- What stands behind the magic byte. -/
def gbody (a s r c f : Int) (keys : List (List Int)) : List Int := encN a ++ (encN s ++ (encN r ++ (encN c ++ (encN f ++ (encN (keys.length : Int) ++ keys.flatMap gkey)))))
theorem gbytes_body (a s r c f : Int) (keys : List (List Int)) : gbytes a s r c f keys = 75 :: gbody a s r c f keys := by
  unfold gbytes gbody; simp [encAll]
structure RightG (a s r c f : Int) (keys : List (List Int)) : Prop where
  a : 0 ≤ a ∧ a < 18446744073709551616
  s : 0 ≤ s ∧ s < 18446744073709551616
  r : 1 ≤ r ∧ r ≤ 512
  c : 1 ≤ c ∧ c ≤ 512
  f : 0 ≤ f ∧ f < 18446744073709551616
  n : keys.length ≤ 64
  k : ∀ k ∈ keys, 1 ≤ k.length ∧ k.length ≤ 8
theorem parse_whole {a s r c f : Int} {keys : List (List Int)} (h : RightG a s r c f keys) (tl : List Int) : ∃ t, kK (gbody a s r c f keys ++ tl) = (keys, ⟨tl, t, 0⟩) ∧ (kA (gbody a s r c f keys ++ tl)).2 = a ∧ (kB (gbody a s r c f keys ++ tl)).2 = s ∧ (kR (gbody a s r c f keys ++ tl)).2 = r ∧ (kC (gbody a s r c f keys ++ tl)).2 = c ∧ (kF (gbody a s r c f keys ++ tl)).2 = f := by
  have e : gbody a s r c f keys ++ tl = encN a ++ (encN s ++ (encN r ++ (encN c ++ (encN f ++ (encN (keys.length : Int) ++ (keys.flatMap gkey ++ tl)))))) := by unfold gbody; simp
  rw [e]
  have hA : kA _ = _ := number_whole h.a.1 h.a.2 (encN s ++ (encN r ++ (encN c ++ (encN f ++ (encN (keys.length : Int) ++ (keys.flatMap gkey ++ tl)))))) 0
  have hB := number_whole h.s.1 h.s.2 (encN r ++ (encN c ++ (encN f ++ (encN (keys.length : Int) ++ (keys.flatMap gkey ++ tl))))) (0 + (encN a).length)
  have hR := up_whole (e := 5) (by have := h.r; omega : (0 : Int) ≤ r) h.r.2 (by decide) (encN c ++ (encN f ++ (encN (keys.length : Int) ++ (keys.flatMap gkey ++ tl)))) (0 + (encN a).length + (encN s).length)
  have hC := up_whole (e := 5) (by have := h.c; omega : (0 : Int) ≤ c) h.c.2 (by decide) (encN f ++ (encN (keys.length : Int) ++ (keys.flatMap gkey ++ tl))) (0 + (encN a).length + (encN s).length + (encN r).length)
  have hF := number_whole h.f.1 h.f.2 (encN (keys.length : Int) ++ (keys.flatMap gkey ++ tl)) (0 + (encN a).length + (encN s).length + (encN r).length + (encN c).length)
  have hN := up_whole (e := 6) (by omega : (0 : Int) ≤ (keys.length : Int)) (by have := h.n; omega : (keys.length : Int) ≤ 64) (by decide) (keys.flatMap gkey ++ tl) (0 + (encN a).length + (encN s).length + (encN r).length + (encN c).length + (encN f).length)
  obtain ⟨t, hK⟩ := gkeys_whole h.k tl (0 + (encN a).length + (encN s).length + (encN r).length + (encN c).length + (encN f).length + (encN (keys.length : Int)).length) []
  refine ⟨t, ?_, ?_, ?_, ?_, ?_, ?_⟩
  · unfold kK kN kF kC kR kB; rw [hA, hB, hR, hC, hF, hN]; simpa using hK
  · rw [hA]
  · unfold kB; rw [hA, hB]
  · unfold kR kB; rw [hA, hB, hR]
  · unfold kC kR kB; rw [hA, hB, hR, hC]
  · unfold kF kC kR kB; rw [hA, hB, hR, hC, hF]
theorem parse_cut {a s r c f : Int} {keys : List (List Int)} (h : RightG a s r c f keys) (m : Nat) (hm : m < (gbody a s r c f keys).length) : Bad (kK ((gbody a s r c f keys).take m)).2 := by
  have bad0 : ∀ {x : RS × Int}, Bad x.1 → x.2 = 0 → Bad (gkeys x.2.toNat x.1 []).2 := fun {x} h1 h2 => by rw [h2]; exact h1
  unfold gbody at hm ⊢
  unfold kK kN kF kC kR kB kA
  rcases number_cut h.a.1 h.a.2 _ 0 m hm with ⟨m1, t1, hm1, e1⟩ | hb
  · rw [e1]
    rcases number_cut h.s.1 h.s.2 _ t1 m1 hm1 with ⟨m2, t2, hm2, e2⟩ | hb
    · rw [e2]
      rcases up_cut (e := 5) (by have := h.r; omega : (0 : Int) ≤ r) h.r.2 (by decide) _ t2 m2 hm2 with ⟨m3, t3, hm3, e3⟩ | ⟨hb, -⟩
      · rw [e3]
        rcases up_cut (e := 5) (by have := h.c; omega : (0 : Int) ≤ c) h.c.2 (by decide) _ t3 m3 hm3 with ⟨m4, t4, hm4, e4⟩ | ⟨hb, -⟩
        · rw [e4]
          rcases number_cut h.f.1 h.f.2 _ t4 m4 hm4 with ⟨m5, t5, hm5, e5⟩ | hb
          · rw [e5]
            rcases up_cut (e := 6) (by omega : (0 : Int) ≤ (keys.length : Int)) (by have := h.n; omega : (keys.length : Int) ≤ 64) (by decide) _ t5 m5 hm5 with ⟨m6, t6, hm6, e6⟩ | ⟨hb, h0⟩
            · rw [e6]
              simpa using gkeys_cut h.k t6 [] m6 hm6
            · exact bad0 hb h0
          · rw [bad_up hb]; exact hb
        · rw [bad_number hb, bad_up hb]; exact hb
      · rw [bad_up hb, bad_number hb, bad_up hb]; exact hb
    · rw [bad_up hb, bad_up hb, bad_number hb, bad_up hb]; exact hb
  · rw [bad_number hb, bad_up hb, bad_up hb, bad_number hb, bad_up hb]; exact hb
end Go.Proofs.Ytpephndecdkfhaa
