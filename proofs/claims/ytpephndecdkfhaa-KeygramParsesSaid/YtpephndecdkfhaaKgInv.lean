/- A gram that was parsed is told by just its bytes. -/
import Derived.Test.YtpephndecdkfhaaRInv
import Derived.Test.YtpephndecdkfhaaKgP
namespace Go.Proofs.Ytpephndecdkfhaa
set_option linter.unusedVariables false
set_option linter.unusedSimpArgs false
theorem kKey_in8 {s : RS} (h : In8 s.l) : In8 (kKey s).1.l := by
  unfold kKey kU
  split
  · exact take_in8 (fail_in8 (up_in8 h _ _) _) _
  · exact take_in8 (up_in8 h _ _) _
theorem inv_key {s : RS} (h8 : In8 s.l) (h : (kKey s).1.e = 0) : s.e = 0 ∧ s.l = gkey (kKey s).2 ++ (kKey s).1.l := by
  unfold kKey at h ⊢
  obtain ⟨h1, h2, h3⟩ := inv_take h
  have hu : ¬ ((s.up 8 5).1.e = 0 ∧ (s.up 8 5).2 = 0) := by
    intro hc
    rw [kU_fail hc.1 hc.2] at h1
    exact inv_fail (by decide) h1
  rw [kU_ok hu] at h1 h2 h3 ⊢
  obtain ⟨g1, g2, g3, g4⟩ := inv_up (by decide) h8 h1
  refine ⟨g1, ?_⟩
  unfold gkey
  rw [h3, List.append_assoc, ← h2]
  exact g2
theorem inv_keys : ∀ (n : Nat) (s : RS) (ks : List (List Int)), In8 s.l → (gkeys n s ks).2.e = 0 → s.e = 0 ∧ ∃ ks', (gkeys n s ks).1 = ks ++ ks' ∧ ks'.length = n ∧ s.l = ks'.flatMap gkey ++ (gkeys n s ks).2.l
  | 0, s, ks, h8, h => ⟨h, [], by simp [gkeys], rfl, by simp [gkeys]⟩
  | n + 1, s, ks, h8, h => by
    unfold gkeys at h ⊢
    by_cases hk : (kKey s).1.e = 0
    · rw [if_pos hk] at h ⊢
      obtain ⟨g1, g2⟩ := inv_key h8 hk
      obtain ⟨_, ks', q1, q2, q3⟩ := inv_keys n (kKey s).1 (ks ++ [(kKey s).2]) (kKey_in8 h8) h
      refine ⟨g1, (kKey s).2 :: ks', by rw [q1]; simp, by simp [q2], ?_⟩
      rw [List.flatMap_cons, List.append_assoc, ← q3]
      exact g2
    · rw [if_neg hk] at h
      exact absurd h hk
theorem gparse_bytes {l : List Int} (h8 : In8 l) {a s r c f : Int} {keys : List (List Int)} (h : gparse l = (a, s, r, c, f, keys, 0)) :
    gcheck r c f keys = 0 ∧ gbytes a s r c f keys = l ∧ (0 ≤ a ∧ a < 18446744073709551616) ∧ (0 ≤ s ∧ s < 18446744073709551616) ∧ (0 ≤ f ∧ f < 18446744073709551616) := by
  by_cases hb : l.length = 0 ∨ l.getD 0 0 ≠ 75
  · rw [gparse_bad hb] at h
    simp at h
  · by_cases he : kE (l.drop 1) = 0
    · rw [gparse_ok hb he] at h
      simp only [Prod.mk.injEq] at h
      obtain ⟨rfl, rfl, rfl, rfl, rfl, rfl, _⟩ := h
      have ht8 : In8 (l.drop 1) := h8.drop 1
      have hl : l = 75 :: l.drop 1 := by
        cases l with
        | nil => exact absurd (Or.inl rfl) hb
        | cons x t => have : x = 75 := Classical.byContradiction fun hx => hb (Or.inr (by simpa using hx)); rw [this]; rfl
      obtain ⟨t, ht⟩ : ∃ t, l.drop 1 = t := ⟨_, rfl⟩
      rw [ht] at he ht8 hl ⊢
      by_cases hd : (kK t).2.done = 0
      · rw [kE_ck hd] at he
        obtain ⟨e1, e2⟩ := inv_done hd
        have i1 : In8 (kA t).1.l := number_in8 (s := ⟨t, 0, 0⟩) ht8
        have i2 : In8 (kB t).1.l := number_in8 i1
        have i3 : In8 (kR t).1.l := up_in8 i2 _ _
        have i4 : In8 (kC t).1.l := up_in8 i3 _ _
        have i5 : In8 (kF t).1.l := number_in8 i4
        have i6 : In8 (kN t).1.l := up_in8 i5 _ _
        obtain ⟨g6, ks, q1, q2, q3⟩ := inv_keys _ _ _ i6 e1
        obtain ⟨g5, p5, b5, _⟩ := inv_up (s := (kF t).1) (m := 64) (e := 6) (by decide) i5 g6
        obtain ⟨g4, p4, b4, c4⟩ := inv_number (s := (kC t).1) i4 g5
        obtain ⟨g3, p3, _, _⟩ := inv_up (s := (kR t).1) (m := 512) (e := 5) (by decide) i3 g4
        obtain ⟨g2, p2, _, _⟩ := inv_up (s := (kB t).1) (m := 512) (e := 5) (by decide) i2 g3
        obtain ⟨g1, p1, b1, c1⟩ := inv_number (s := (kA t).1) i1 g2
        obtain ⟨g0, p0, b0, c0⟩ := inv_number (s := ⟨t, 0, 0⟩) ht8 g1
        refine ⟨he, ?_, ⟨b0, c0⟩, ⟨b1, c1⟩, ⟨b4, c4⟩⟩
        have hk : (kK t).1 = ks := by rw [List.nil_append] at q1; exact q1
        have hkl : ((kN t).2 : Int) = (ks.length : Int) := by have : 0 ≤ (kN t).2 := b5; rw [q2]; omega
        have hz : (gkeys (kN t).2.toNat (kN t).1 []).2.l = [] := e2
        rw [hz, List.append_nil] at q3
        have hN : (kN t).1.l = ks.flatMap gkey := q3
        have hF : (kF t).1.l = encN (kN t).2 ++ (kN t).1.l := p5
        have hC : (kC t).1.l = encN (kF t).2 ++ (kF t).1.l := p4
        have hR : (kR t).1.l = encN (kC t).2 ++ (kC t).1.l := p3
        have hB : (kB t).1.l = encN (kR t).2 ++ (kR t).1.l := p2
        have hA : (kA t).1.l = encN (kB t).2 ++ (kB t).1.l := p1
        have hT : t = encN (kA t).2 ++ (kA t).1.l := p0
        unfold gbytes
        rw [hk]
        conv => rhs; rw [hl, hT, hA, hB, hR, hC, hF, hN, hkl]
        simp [encAll]
      · rw [kE_no hd] at he
        exact absurd he hd
    · rw [gparse_no hb he] at h
      simp only [Prod.mk.injEq] at h
      exact absurd h.2.2.2.2.2.2 he
end Go.Proofs.Ytpephndecdkfhaa
