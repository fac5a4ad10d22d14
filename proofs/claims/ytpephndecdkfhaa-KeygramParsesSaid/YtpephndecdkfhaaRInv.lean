/- What a reader took without an error stood there: the other way round. -/
import Derived.Test.YtpephndecdkfhaaRSt
namespace Go.Proofs.Ytpephndecdkfhaa
set_option linter.unusedVariables false
set_option linter.unusedSimpArgs false
theorem inv_number {s : RS} (h8 : In8 s.l) (h : s.number.1.e = 0) : s.e = 0 ∧ s.l = encN s.number.2 ++ s.number.1.l ∧ 0 ≤ s.number.2 ∧ s.number.2 < 18446744073709551616 := by
  by_cases he : s.e = 0
  · obtain ⟨m, k, e, hr⟩ : ∃ m k e, rdNum 0 0 s.l = (m, k, e) := ⟨_, _, _, rfl⟩
    unfold RS.number at h ⊢
    rw [if_pos he, hr] at h ⊢
    dsimp only at h ⊢
    by_cases h2 : e = 0
    · rw [if_pos h2] at h ⊢
      subst h2
      obtain ⟨q, hm, hq, _, hlt, hk, ht, hl⟩ := rdNum_ok s.l 0 0 h8 (by omega) (by omega) (by decide) m k hr
      have hmq : m = q := by rw [hm]; simp
      subst hmq
      dsimp only
      refine ⟨he, ?_, hq, by simpa using hlt⟩
      have hk2 : k.toNat = (encN m).length := by omega
      rw [hk2]
      conv => lhs; rw [← List.take_append_drop (encN m).length s.l, ht]
    · rw [if_neg h2] at h
      exact absurd h h2
  · unfold RS.number at h
    rw [if_neg he] at h
    exact absurd h he
theorem inv_up {s : RS} {m e : Int} (hz : e ≠ 0) (h8 : In8 s.l) (h : (s.up m e).1.e = 0) : s.e = 0 ∧ s.l = encN (s.up m e).2 ++ (s.up m e).1.l ∧ 0 ≤ (s.up m e).2 ∧ (s.up m e).2 ≤ m := by
  by_cases he : s.e = 0
  · by_cases h2 : s.number.1.e = 0
    · by_cases h3 : 0 ≤ m ∧ s.number.2 ≤ m
      · rw [RS.up_yes he h2 h3]
        obtain ⟨_, h4, h5, _⟩ := inv_number h8 h2
        exact ⟨he, h4, h5, h3.2⟩
      · rw [RS.up_no he h2 h3] at h
        exact absurd h hz
    · rw [RS.up_bad he h2] at h
      exact absurd h h2
  · rw [RS.up_e he] at h
    exact absurd h he
theorem inv_take {s : RS} {n : Int} (h : (s.take n).1.e = 0) : s.e = 0 ∧ s.l = (s.take n).2 ++ (s.take n).1.l ∧ ((s.take n).2.length : Int) = n := by
  unfold RS.take at h ⊢
  by_cases he : s.e = 0
  · rw [if_pos he] at h ⊢
    by_cases h2 : 0 ≤ n ∧ n ≤ s.l.length
    · rw [if_pos h2]
      refine ⟨he, (List.take_append_drop _ _).symm, ?_⟩
      rw [List.length_take]; omega
    · rw [if_neg h2] at h
      exact absurd (show (4 : Int) = 0 from h) (by decide)
  · rw [if_neg he] at h
    exact absurd h he
theorem inv_fail {s : RS} {x : Int} (hx : x ≠ 0) : (s.fail x).e ≠ 0 := by
  unfold RS.fail
  by_cases he : s.e = 0
  · rw [if_pos he]; exact hx
  · rw [if_neg he]; exact he
theorem inv_done {s : RS} (h : s.done = 0) : s.e = 0 ∧ s.l = [] := by
  unfold RS.done at h
  by_cases he : s.e = 0
  · rw [if_pos he] at h
    by_cases h2 : s.l.length = 0
    · exact ⟨he, List.length_eq_zero_iff.1 h2⟩
    · rw [if_neg h2] at h
      exact absurd h (by decide)
  · rw [if_neg he] at h
    exact absurd h he
theorem up_zero {s : RS} {m e : Int} (h : ¬ (s.up m e).1.e = 0) : (s.up m e).2 = 0 := by
  unfold RS.up at h ⊢
  by_cases he : s.e = 0
  · rw [if_pos he] at h ⊢
    by_cases h2 : s.number.1.e = 0
    · rw [if_pos h2] at h ⊢
      by_cases h3 : 0 ≤ m ∧ s.number.2 ≤ m
      · rw [if_pos h3] at h; exact absurd h2 h
      · rw [if_neg h3]
    · rw [if_neg h2]
  · rw [if_neg he]
theorem number_in8 {s : RS} (h : In8 s.l) : In8 s.number.1.l := by
  unfold RS.number
  split
  · split
    · exact h.drop _
    · exact h
  · exact h
theorem up_in8 {s : RS} (h : In8 s.l) (m e : Int) : In8 (s.up m e).1.l := by
  unfold RS.up
  split
  · split
    · split
      · exact number_in8 h
      · exact h
    · exact number_in8 h
  · exact h
theorem take_in8 {s : RS} (h : In8 s.l) (n : Int) : In8 (s.take n).1.l := by
  unfold RS.take
  split
  · split
    · exact h.drop _
    · exact h
  · exact h
theorem fail_in8 {s : RS} (h : In8 s.l) (x : Int) : In8 (s.fail x).l := by unfold RS.fail; split <;> exact h
end Go.Proofs.Ytpephndecdkfhaa
