/- LineMakes: what its proof leads to. No condition. -/
import Derived.Test.YtblcmcdifgclcaaPLineMakesLqLineMakes
import Derived.OpenShut
import Derived.Test.YtblcmcdifgclcaaShortqLineMakes
namespace Go.Proofs.Ytblcmcdifgclcaa.Pure
open Go.RowKit Go.Proofs.Ytblcmcdifgclcaa.PLineMakes Go.Proofs.YtblcmcdifgclcaaW.PrintWords Go.Proofs.YtblcmcdifgclcaaW.PrintLast Go.Proofs.YtblcmcdifgclcaaW.PrintMore
set_option linter.unusedVariables false
set_option linter.unusedSimpArgs false
theorem w64 {x : Int} (h0 : -9223372036854775808 ≤ x) (h1 : x < 9223372036854775808) : wrap64 x = x := by unfold wrap64; omega
theorem kp {d k : Nat} (h : d < k) : ∃ m, k = m + 1 := ⟨k - 1, by omega⟩
theorem cast1 (i : Nat) : ((i : Int) + 1) = ((i + 1 : Nat) : Int) := by omega
theorem rScalar (r : Int) : prolepsisref02_Scalar.f r = some (scalarZ r) := by
  unfold prolepsisref02_Scalar.f scalarZ
  by_cases a : 0 ≤ r <;> by_cases b : r ≤ 1114111 <;> by_cases c : r < 55296 <;> by_cases d : 57343 < r <;> simp [*] <;> omega
def flat (p : List (Int × Int)) : List Int := p.flatMap fun x => [x.1, x.2]
theorem flat_len (p : List (Int × Int)) : (flat p).length = 2 * p.length := by
  induction p with
  | nil => rfl
  | cons x t ih => simp [flat] at *; omega
theorem flat_rd (p : List (Int × Int)) : ∀ j, j < p.length → rd (flat p) ((2 * j : Nat) : Int) = (p.getD j (0, 0)).1 ∧ rd (flat p) ((2 * j + 1 : Nat) : Int) = (p.getD j (0, 0)).2 := by
  induction p with
  | nil => intro j h; simp at h
  | cons x t ih =>
    intro j h
    match j with
    | 0 => exact ⟨rfl, rfl⟩
    | j + 1 =>
      have := ih j (by simpa using h)
      have e : ∀ i : Nat, rd (flat (x :: t)) ((i + 2 : Nat) : Int) = rd (flat t) (i : Int) := fun i => by unfold rd; rw [Int.toNat_natCast, Int.toNat_natCast]; rfl
      rw [show 2 * (j + 1) = 2 * j + 2 by omega, show 2 * j + 2 + 1 = (2 * j + 1) + 2 by omega, e, e, this.1, this.2]
      exact ⟨rfl, rfl⟩
theorem in_l (r : Int) (p : List (Int × Int)) (hp : p.length ≤ 1000) : ∀ (d j k : Nat), j + d = p.length → d < k → prolepsisref03_in.l0 k r (flat p) ((2 * j : Nat) : Int) = some (inL r (p.drop j)) := by
  intro d
  induction d with
  | zero =>
    intro j k hj hk
    obtain ⟨k, rfl⟩ := kp hk
    have hf := flat_len p
    rw [prolepsisref03_in.l0, w64 (by omega) (by omega), if_neg (by omega), List.drop_eq_nil_of_le (by omega)]
    rfl
  | succ d ih =>
    intro j k hj hk
    obtain ⟨k, rfl⟩ := kp hk
    have hf := flat_len p
    obtain ⟨e1, e2⟩ := flat_rd p j (by omega)
    have hd : p.drop j = p.getD j (0, 0) :: p.drop (j + 1) := by rw [List.drop_eq_getElem_cons (show j < p.length by omega)]; simp [List.getD_eq_getElem?_getD, show j < p.length by omega]
    have ih' := ih (j + 1) k (by omega) (by omega)
    have h1 : ((2 * j : Nat) : Int) + 1 = ((2 * j + 1 : Nat) : Int) := by omega
    have h2 : ((2 * j : Nat) : Int) + 2 = ((2 * (j + 1) : Nat) : Int) := by omega
    rw [prolepsisref03_in.l0, h1, h2, w64 (x := ((2 * j + 1 : Nat) : Int)) (by omega) (by omega), w64 (x := ((2 * (j + 1) : Nat) : Int)) (by omega) (by omega), e1, e2, ih', hd,
      if_pos (by omega), if_pos (show (0 : Int) ≤ ((2 * j : Nat) : Int) by omega), if_pos (by omega), if_pos (show (0 : Int) ≤ ((2 * j + 1 : Nat) : Int) by omega)]
    by_cases a : (p.getD j (0, 0)).1 ≤ r <;> by_cases b : r ≤ (p.getD j (0, 0)).2 <;> simp only [List.getD_eq_getElem?_getD] at a b <;> simp [inL, a, b]
theorem in_ok (r : Int) (p : List (Int × Int)) (l : List Int) (h : l = flat p) (k : Nat) (hk : p.length < k) (hp : p.length ≤ 1000) : prolepsisref03_in.f k r l = some (inL r p) := by
  subst h
  unfold prolepsisref03_in.f
  have := in_l r p hp p.length 0 k (by omega) hk
  simpa using this
theorem rOf (r : Int) (k : Nat) (hk : 20 ≤ k) : prolepsisref03_Of.f k r = some (wOf r) := by
  obtain ⟨k, rfl⟩ : ∃ m, k = m + 1 := ⟨k - 1, by omega⟩
  have j1 : prolepsisref03_Of.j0 (k + 1) r true = some (-1) := by rw [prolepsisref03_Of.j0, if_pos rfl]
  have j2 : prolepsisref03_Of.j0 (k + 1) r false = some (if inL r markL = true then 0 else if inL r wideL = true then 2 else 1) := by
    rw [prolepsisref03_Of.j0, if_neg (by simp), in_ok r markL [768, 879, 8203, 8207, 8400, 8447, 65024, 65039, 65056, 65071] rfl k (by simp [markL]; omega) (by simp [markL]), in_ok r wideL [4352, 4447, 11904, 12350, 12353, 42191, 44032, 55203, 63744, 64255, 65072, 65135, 65280, 65376, 65504, 65510, 127744, 128591, 129280, 129535, 131072, 262141] rfl k (by simp [wideL]; omega) (by simp [wideL])]
    simp only [Option.bind_some]
    split <;> (try split) <;> rfl
  unfold prolepsisref03_Of.f wOf
  by_cases a : r < 32
  · rw [if_pos a, if_pos (.inl a), j1]
  · rw [if_neg a, in_ok r [(127, 159)] [127, 159] rfl (k + 1) (by simp; omega) (by simp)]
    simp only [Option.bind_some]
    by_cases b : 127 ≤ r ∧ r ≤ 159
    · rw [if_pos (by simp [inL, b]), if_pos (.inr (.inl b)), j1]
    · rw [if_neg (by simp only [inL, List.any_cons, List.any_nil, Bool.or_false, Bool.and_eq_true, decide_eq_true_eq]; exact b), rScalar]
      simp only [Option.bind_some]
      cases hs : scalarZ r
      · rw [if_pos (.inr (.inr rfl))]; exact j1
      · rw [if_neg (by simp; omega)]; exact j2
theorem mn_len {n : Nat} {c : Int} (hc : 0 ≤ c) : 0 ≤ mn (n : Int) c ∧ mn (n : Int) c ≤ n ∧ mn (n : Int) c ≤ c := by unfold mn; split <;> omega
abbrev CS := S26
/-- Is a cell of that width there? -/
def hasW (l : List CS) (k : Nat) (v : Int) : Bool := match l[k]? with | some x => decide (x.f2 = v) | none => false
def aloneN (l : List CS) (i : Nat) : Bool := (hasW l i 2 && !hasW l (i + 1) 0) || (hasW l i 0 && !(decide (0 < i) && hasW l (i - 1) 2))
theorem isW_nat (l : List CS) (k : Nat) (v : Int) : isW l (k : Int) v = hasW l k v := by
  unfold isW hasW
  by_cases h : k < l.length
  · rw [rd_get l k h]
    simp [h]
  · rw [List.getElem?_eq_none (by omega)]
    simp [h]
theorem isW_neg (l : List CS) (k v : Int) (h : k < 0) : isW l k v = false := by unfold isW; simp [show ¬ 0 ≤ k by omega]
theorem alone_nat (l : List CS) (i : Nat) (h : i ≤ 1000000) : aloneC l (i : Int) = aloneN l i := by
  unfold aloneC aloneN
  rw [show wrap64 ((i : Int) + 1) = ((i + 1 : Nat) : Int) by unfold wrap64; omega, show wrap64 ((i : Int) - 1) = (i : Int) - 1 by unfold wrap64; omega, isW_nat, isW_nat, isW_nat]
  by_cases h0 : 0 < i
  · rw [show (i : Int) - 1 = ((i - 1 : Nat) : Int) by omega, isW_nat]; simp [h0]
  · rw [isW_neg l _ 2 (by omega)]; simp [h0]
theorem CS_ext {x y : CS} (h0 : x.f0 = y.f0) (h1 : x.f1.f0 = y.f1.f0) (h2 : x.f1.f1 = y.f1.f1) (h3 : x.f2 = y.f2) (h4 : x.f3.f0 = y.f3.f0) (h5 : x.f3.f1 = y.f3.f1) (h6 : x.f3.f2 = y.f3.f2) : x = y := by
  obtain ⟨a, ⟨b, c⟩, d, ⟨e, f, g⟩⟩ := x
  obtain ⟨a', ⟨b', c'⟩, d', ⟨e', f', g'⟩⟩ := y
  simp only at h0 h1 h2 h3 h4 h5 h6
  subst h0 h1 h2 h3 h4 h5 h6
  rfl
instance : DecidableEq CS := fun x y => decidable_of_iff (x.f0 = y.f0 ∧ x.f1.f0 = y.f1.f0 ∧ x.f1.f1 = y.f1.f1 ∧ x.f2 = y.f2 ∧ x.f3.f0 = y.f3.f0 ∧ x.f3.f1 = y.f3.f1 ∧ x.f3.f2 = y.f3.f2) ⟨fun ⟨a, b, c, d, e, f, g⟩ => CS_ext a b c d e f g, fun h => by subst h; simp⟩
theorem mend_at (l : List CS) (hl : l.length ≤ 1000000) (j : Nat) : (mendC l)[j]? = l[j]?.map (fun x => if aloneN l j = true then blankS x else x) := by
  by_cases h : j < l.length
  · rw [mend_get l j h, alone_nat l j (by omega), rd_get l j h]; rfl
  · rw [List.getElem?_eq_none (by rw [mend_len]; omega), List.getElem?_eq_none (by omega)]; rfl
def blankP (p0 p1 p2 : Int) : CS := ⟨32, ⟨0, 0⟩, 1, ⟨p0, p1, p2⟩⟩
theorem blanks_l (p0 p1 p2 : Int) (n : Nat) (hn : n ≤ 1000000) : ∀ (d i k : Nat) (o : List CS), i + d = n → o.length = i → d < k → line_blanks.l0 k o (n : Int) (i : Int) p0 p1 p2 = some (o ++ List.replicate d (blankP p0 p1 p2)) := by
  intro d
  induction d with
  | zero =>
    intro i k o hi ho hk
    obtain ⟨k, rfl⟩ := kp hk
    rw [line_blanks.l0, if_neg (by omega)]
    simp
  | succ d ih =>
    intro i k o hi ho hk
    obtain ⟨k, rfl⟩ := kp hk
    rw [line_blanks.l0, if_pos (by omega)]
    simp only [cell_Blank.f, Option.bind_some]
    rw [if_pos (by omega), w64 (by omega) (by omega), cast1, ih (i + 1) k _ (by omega) (by simp; omega) (by omega), List.replicate_succ]
    simp [blankP]
theorem blanks_ok (p0 p1 p2 n : Int) (hn : n ≤ 1000000) (k : Nat) (hk : n.toNat < k) : line_blanks.f k n p0 p1 p2 = some (List.replicate n.toNat (blankP p0 p1 p2)) := by
  unfold line_blanks.f
  by_cases h : 0 ≤ n
  · have := blanks_l p0 p1 p2 n.toNat (by omega) n.toNat 0 k [] (by omega) rfl hk
    rw [show ((n.toNat : Nat) : Int) = n by omega] at this
    simpa using this
  · obtain ⟨k, rfl⟩ := kp hk
    rw [line_blanks.l0, if_neg (by omega), show n.toNat = 0 by omega]
    rfl
/-- A number as a length. -/
def lenC (n : Int) : Nat := (mn (mx n 0) 512).toNat
theorem lenC_eq (n : Int) : mn (mx n 0) 512 = ((lenC n : Nat) : Int) ∧ lenC n ≤ 512 := by
  unfold lenC mn mx
  split <;> split <;> omega
/-- A line of another length. -/
def fitC (l : List CS) (n : Int) : List CS := mendC ((l ++ List.replicate (lenC n - l.length) (blankP 0 0 0)).take (lenC n))
theorem fit_pre_len (l : List CS) (n : Int) : ((l ++ List.replicate (lenC n - l.length) (blankP 0 0 0)).take (lenC n)).length = lenC n := by
  rw [List.length_take, List.length_append, List.length_replicate]; omega
theorem fit_len (l : List CS) (n : Int) : (fitC l n).length = lenC n := by
  unfold fitC
  rw [mend_len, fit_pre_len]
theorem Fit_ok (l : List CS) (n : Int) (hl : l.length ≤ 100000) (k : Nat) (hk : 600 < k) : line_Fit.f k l n = some (fitC l n) := by
  obtain ⟨h1, h2⟩ := lenC_eq n
  unfold line_Fit.f line_length.f fitC
  simp only [Option.bind_some]
  rw [h1]
  by_cases h : ((lenC n : Nat) : Int) ≤ (l.length : Int)
  · rw [if_pos h, if_pos (by omega), Int.toNat_natCast, show lenC n - l.length = 0 by omega, List.replicate_zero, List.append_nil]
    unfold line_Mend.f
    rw [if_pos (by rw [List.length_take]; omega)]
    rfl
  · rw [if_neg h]
    unfold cell_Cell_95.f
    rw [if_pos (by omega), w64 (by omega) (by omega), blanks_ok 0 0 0 _ (by omega) k (by omega), show ((lenC n : Int) - (l.length : Int)).toNat = lenC n - l.length by omega]
    simp only [Option.bind_some]
    rw [if_pos (by rw [List.length_replicate]; omega), List.take_of_length_le (by rw [List.length_append, List.length_replicate]; omega)]
    unfold line_Mend.f
    rw [if_pos (by rw [List.length_append, List.length_replicate]; omega)]
    rfl
theorem New_ok (n : Int) (k : Nat) (hk : 600 < k) : line_New.f k n = some (List.replicate (lenC n) (blankP 0 0 0)) := by
  obtain ⟨h1, h2⟩ := lenC_eq n
  unfold line_New.f line_length.f
  simp only [Option.bind_some]
  rw [h1, blanks_ok 0 0 0 _ (by omega) k (by omega)]
  rfl
def laidC (l : List CS) (i : Nat) (l2 : List CS) : List CS := l.take i ++ l2 ++ l.drop (i + l2.length)
theorem laidC_len (l : List CS) (i : Nat) (l2 : List CS) (h : i + l2.length ≤ l.length) : (laidC l i l2).length = l.length := by
  unfold laidC
  rw [List.length_append, List.length_append, List.length_take, List.length_drop]; omega
theorem laidC_get (l : List CS) (i : Nat) (l2 : List CS) (h : i + l2.length ≤ l.length) (j : Nat) : (laidC l i l2)[j]? = if j < i then l[j]? else if j < i + l2.length then l2[j - i]? else l[j]? := by
  unfold laidC
  have hl : (l.take i).length = i := by rw [List.length_take]; omega
  by_cases h1 : j < i
  · rw [if_pos h1, List.append_assoc, List.getElem?_append_left (by omega), List.getElem?_take, if_pos h1]
  · rw [if_neg h1, List.append_assoc, List.getElem?_append_right (by omega), hl]
    by_cases h2 : j < i + l2.length
    · rw [if_pos h2, List.getElem?_append_left (by omega)]
    · rw [if_neg h2, List.getElem?_append_right (by omega), List.getElem?_drop]
      congr 1; omega
theorem laid_ok (l : List CS) (i : Nat) (l2 : List CS) (h : i + l2.length ≤ l.length) (hl : l.length ≤ 1000000) : line_laid.f l (i : Int) l2 = some (mendC (laidC l i l2)) := by
  unfold line_laid.f laidC
  rw [if_pos ⟨by omega, by omega, by omega⟩, Int.toNat_natCast]
/-- A place, within a line. -/
def clamp (x : Int) (n : Nat) : Nat := (mn (mx x 0) (n : Int)).toNat
theorem clamp_eq (x : Int) (n : Nat) : mn (mx x 0) (n : Int) = ((clamp x n : Nat) : Int) ∧ clamp x n ≤ n := by
  unfold clamp mn mx
  split <;> split <;> omega
/-- A line with blanks from a place to another one. -/
def eraseC (l : List CS) (a b : Int) (p0 p1 p2 : Int) : List CS := mendC (laidC l (clamp a l.length) (List.replicate (clamp b l.length - clamp a l.length) (blankP p0 p1 p2)))
theorem Erase_ok (l : List CS) (a b p0 p1 p2 : Int) (hl : l.length ≤ 100000) (k : Nat) (hk : l.length < k) : line_Erase.f k l a b p0 p1 p2 = some (eraseC l a b p0 p1 p2) := by
  obtain ⟨h1, h2⟩ := clamp_eq a l.length
  obtain ⟨h3, h4⟩ := clamp_eq b l.length
  unfold line_Erase.f eraseC
  rw [h1, h3, w64 (by omega) (by omega)]
  have hm : mx 0 ((clamp b l.length : Int) - (clamp a l.length : Int)) = ((clamp b l.length - clamp a l.length : Nat) : Int) := by unfold mx; split <;> omega
  rw [hm, blanks_ok p0 p1 p2 _ (by omega) k (by omega), Int.toNat_natCast]
  simp only [Option.bind_some]
  rw [laid_ok l _ _ (by rw [List.length_replicate]; omega) (by omega)]
  rfl
theorem erase_len (l : List CS) (a b p0 p1 p2 : Int) : (eraseC l a b p0 p1 p2).length = l.length := by
  obtain ⟨h1, h2⟩ := clamp_eq a l.length
  obtain ⟨h3, h4⟩ := clamp_eq b l.length
  unfold eraseC
  rw [mend_len, laidC_len _ _ _ (by rw [List.length_replicate]; omega)]
def rightS (x : CS) : Bool := rightC x.f0 x.f1.f0 x.f1.f1 x.f2 x.f3.f0 x.f3.f1 x.f3.f2
def restS (x : CS) : CS := ⟨0, ⟨0, 0⟩, 0, x.f3⟩
/-- May a cell be put there? -/
def putOk (l : List CS) (i : Int) (c : CS) : Bool := decide (c.f2 ≠ 0) && rightS c && decide (0 ≤ i) && decide (i + c.f2 ≤ l.length)
def putC (l : List CS) (i : Int) (c : CS) : List CS := if putOk l i c = true then mendC (laidC l i.toNat (if c.f2 = 2 then [c, restS c] else [c])) else l
theorem right_le {c : CS} (h : rightS c = true) : c.f2 ≤ 2 := by
  unfold rightS rightC at h
  rw [Bool.and_eq_true] at h
  have h := h.2
  by_cases h0 : c.f2 = 0
  · omega
  · rw [if_neg h0] at h
    simp only [Bool.and_eq_true, decide_eq_true_eq] at h
    exact h.1
theorem Put_ok (l : List CS) (i : Int) (c : CS) (hi : -9223372036854775808 ≤ i ∧ i ≤ 9223372036854775807) (h8 : 0 ≤ c.f2 ∧ c.f2 ≤ 255) (hl : l.length ≤ 100000) (k : Nat) (hk : 0 < k) :
    line_Put.f k l i c.f0 c.f1.f0 c.f1.f1 c.f2 c.f3.f0 c.f3.f1 c.f3.f2 = some (putC l i c, putOk l i c) := by
  obtain ⟨k, rfl⟩ := kp hk
  have jno : ∀ b, b = true → putOk l i c = false → line_Put.j0 (k + 1) l i b c.f0 c.f1.f0 c.f1.f1 c.f2 c.f3.f0 c.f3.f1 c.f3.f2 = some (putC l i c, putOk l i c) := by
    intro b hb hp
    rw [line_Put.j0, if_pos hb]
    unfold cell_Cell_95.f putC
    rw [if_pos (by omega), hp]
    simp
  unfold line_Put.f
  by_cases h0 : c.f2 = 0
  · rw [if_pos h0]
    exact jno true rfl (by unfold putOk; simp [h0])
  · rw [if_neg h0]
    unfold cell_Right.f
    rw [if_pos h8]
    simp only [Option.bind_some]
    have hr : rightC c.f0 c.f1.f0 c.f1.f1 c.f2 c.f3.f0 c.f3.f1 c.f3.f2 = rightS c := rfl
    rw [hr]
    cases hR : rightS c
    · rw [if_neg (by simp)]
      exact jno true rfl (by unfold putOk; simp [hR])
    · rw [if_pos rfl]
      have h2 := right_le hR
      by_cases h1 : i < 0
      · rw [if_pos h1]
        exact jno true rfl (by unfold putOk; simp [show ¬ 0 ≤ i by omega])
      · rw [if_neg h1]
        by_cases h3 : i ≥ (l.length : Int)
        · rw [if_pos h3]
          exact jno true rfl (by unfold putOk; simp [show ¬ i + c.f2 ≤ (l.length : Int) by omega])
        · rw [if_neg h3, w64 (x := (l.length : Int) - i) (by omega) (by omega), w64 (x := c.f2) (by omega) (by omega)]
          by_cases h4 : (l.length : Int) - i < c.f2
          · exact jno _ (by simpa using h4) (by unfold putOk; simp [show ¬ i + c.f2 ≤ (l.length : Int) by omega])
          · have hp : putOk l i c = true := by unfold putOk; rw [hR]; simp [h0]; omega
            rw [decide_eq_false h4, line_Put.j0, if_neg (by simp), hp]
            unfold putC
            rw [if_pos hp]
            by_cases h5 : c.f2 = 2
            · rw [if_pos h5, if_pos h5]
              simp only [cell_Rest.f, Option.bind_some]
              have := laid_ok l i.toNat [c, restS c] (by simp; omega) (by omega)
              rw [show ((i.toNat : Nat) : Int) = i by omega] at this
              show (line_laid.f l i [c, restS c]).bind _ = _
              rw [this]
              rfl
            · rw [if_neg h5, if_neg h5]
              have := laid_ok l i.toNat [c] (by simp; omega) (by omega)
              rw [show ((i.toNat : Nat) : Int) = i by omega] at this
              show (line_laid.f l i [c]).bind _ = _
              rw [this]
              rfl
theorem Cut_ok (l : List CS) : prolepsislaw06_Cut.f l = some (l.take 30) := by
  have hn := mn_len (n := l.length) (c := 30) (by omega)
  have ht : l.take (mn (l.length : Int) 30).toNat = l.take 30 := by
    by_cases h : 30 ≤ l.length
    · rw [show (mn (l.length : Int) 30).toNat = 30 by unfold mn; split <;> omega]
    · rw [List.take_of_length_le (by unfold mn; split <;> omega), List.take_of_length_le (by omega)]
  unfold prolepsislaw06_Cut.f
  simp only [Option.bind_some]
  rw [if_pos hn.1, if_pos hn.2.1, ht]
  simp only [Option.bind_some, List.nil_append, List.length_nil, Nat.zero_add]
  rw [if_pos (by rw [List.length_take]; omega)]
/-- A cell with a mark more. -/
def markS (x : CS) (r : Int) : CS := ⟨(markC x.f0 x.f1.f0 x.f1.f1 x.f2 x.f3.f0 x.f3.f1 x.f3.f2 r).1, ⟨(markC x.f0 x.f1.f0 x.f1.f1 x.f2 x.f3.f0 x.f3.f1 x.f3.f2 r).2.1, (markC x.f0 x.f1.f0 x.f1.f1 x.f2 x.f3.f0 x.f3.f1 x.f3.f2 r).2.2.1⟩, (markC x.f0 x.f1.f0 x.f1.f1 x.f2 x.f3.f0 x.f3.f1 x.f3.f2 r).2.2.2.1, ⟨(markC x.f0 x.f1.f0 x.f1.f1 x.f2 x.f3.f0 x.f3.f1 x.f3.f2 r).2.2.2.2.1, (markC x.f0 x.f1.f0 x.f1.f1 x.f2 x.f3.f0 x.f3.f1 x.f3.f2 r).2.2.2.2.2.1, (markC x.f0 x.f1.f0 x.f1.f1 x.f2 x.f3.f0 x.f3.f1 x.f3.f2 r).2.2.2.2.2.2.1⟩⟩
def markB (x : CS) (r : Int) : Bool := (markC x.f0 x.f1.f0 x.f1.f1 x.f2 x.f3.f0 x.f3.f1 x.f3.f2 r).2.2.2.2.2.2.2
/-- Where a mark goes. -/
def markAt (l : List CS) (i : Nat) : Nat := if hasW l i 0 && (decide (0 < i) && hasW l (i - 1) 2) then i - 1 else i
def markL (l : List CS) (i : Int) (r : Int) : List CS := if 0 ≤ i ∧ i < l.length then l.set (markAt l i.toNat) (markS (rd_T26 l ((markAt l i.toNat : Nat) : Int)) r) else l
def markOk (l : List CS) (i : Int) (r : Int) : Bool := decide (0 ≤ i ∧ i < l.length) && markB (rd_T26 l ((markAt l i.toNat : Nat) : Int)) r
theorem hasW_at' (l : List CS) (i : Nat) (v : Int) (h : i < l.length) : hasW l i v = decide ((rd_T26 l (i : Int)).f2 = v) := by
  unfold hasW
  rw [rd_get l i h]
theorem markAt_le (l : List CS) (i : Nat) : markAt l i ≤ i := by unfold markAt; split <;> omega
theorem markL_len (l : List CS) (i r : Int) : (markL l i r).length = l.length := by unfold markL; split <;> simp
theorem Mark_ok (l : List CS) (i r : Int) (hl : l.length ≤ 100000) (k : Nat) (hk : 0 < k) : line_Mark.f k l i r = some (markL l i r, markOk l i r) := by
  obtain ⟨k, rfl⟩ := kp hk
  unfold line_Mark.f cell_Cell_95.f
  rw [if_pos (by omega)]
  simp only [Option.bind_some]
  by_cases h0 : i < 0
  · rw [if_pos h0, line_Mark.j0, if_pos rfl]
    unfold markL markOk
    have hin : ¬ (0 ≤ i ∧ i < (l.length : Int)) := by omega
    rw [if_neg hin, decide_eq_false hin]; rfl
  · rw [if_neg h0]
    by_cases h1 : i ≥ (l.length : Int)
    · rw [decide_eq_true h1, line_Mark.j0, if_pos rfl]
      unfold markL markOk
      have hin : ¬ (0 ≤ i ∧ i < (l.length : Int)) := by omega
      rw [if_neg hin, decide_eq_false hin]; rfl
    · obtain ⟨n, rfl⟩ : ∃ n : Nat, i = n := ⟨i.toNat, by omega⟩
      have hn : n < l.length := by omega
      rw [decide_eq_false h1, line_Mark.j0, if_neg (by simp), if_pos (by omega), if_pos (by omega)]
      unfold markL markOk
      have hin : 0 ≤ (n : Int) ∧ (n : Int) < (l.length : Int) := by omega
      rw [if_pos hin, decide_eq_true hin, Bool.true_and, Int.toNat_natCast]
      have hA := hasW_at' l n 0 hn
      by_cases h2 : (rd_T26 l (n : Int)).f2 = 0
      · rw [if_pos h2]
        by_cases h3 : 0 < n
        · rw [if_pos (by omega), w64 (by omega) (by omega), show (n : Int) - 1 = ((n - 1 : Nat) : Int) by omega, if_pos (by omega), if_pos (by omega)]
          have hB := hasW_at' l (n - 1) 2 (by omega)
          by_cases h4 : (rd_T26 l ((n - 1 : Nat) : Int)).f2 = 2
          · rw [if_pos h4]
            unfold cell_Mark.f
            simp only [Option.bind_some]
            have hm : markAt l n = n - 1 := by unfold markAt; rw [hA, hB]; simp [h2, h4, h3]
            rw [if_pos (by omega), hm, Int.toNat_natCast]
            rfl
          · rw [if_neg h4]
            unfold cell_Mark.f
            simp only [Option.bind_some]
            have hm : markAt l n = n := by unfold markAt; rw [hA, hB]; simp [h4]
            rw [if_pos (by omega), hm]
            rfl
        · rw [if_neg (by omega)]
          unfold cell_Mark.f
          simp only [Option.bind_some]
          have hm : markAt l n = n := by unfold markAt; simp [h3]
          rw [if_pos (by omega), hm]
          rfl
      · rw [if_neg h2]
        unfold cell_Mark.f
        simp only [Option.bind_some]
        have hm : markAt l n = n := by unfold markAt; rw [hA]; simp [h2]
        rw [if_pos (by omega), hm]
        rfl
theorem put_len (l : List CS) (i : Int) (c : CS) (hc0 : 0 ≤ c.f2) : (putC l i c).length = l.length := by
  unfold putC
  split
  · rename_i hp
    unfold putOk at hp
    simp only [Bool.and_eq_true, decide_eq_true_eq] at hp
    have := right_le hp.1.1.2
    rw [mend_len, laidC_len]
    split
    · simp; omega
    · simp; omega
  · rfl
abbrev RC := S32
def toR (x : CS) : RC := ⟨x.f0, ⟨x.f1.f0, x.f1.f1⟩, x.f2, ⟨x.f3.f0, x.f3.f1, x.f3.f2⟩⟩
def W32 (x : CS) : Prop := (-2147483648 ≤ x.f0 ∧ x.f0 ≤ 2147483647) ∧ (-2147483648 ≤ x.f1.f0 ∧ x.f1.f0 ≤ 2147483647) ∧ (-2147483648 ≤ x.f1.f1 ∧ x.f1.f1 ≤ 2147483647) ∧ (0 ≤ x.f2 ∧ x.f2 ≤ 255)
theorem rd_mem (l : List CS) (i : Nat) (h : i < l.length) : rd_T26 l (i : Int) ∈ l := List.mem_of_getElem? (rd_get l i h)
theorem rd_R (l : List CS) (i : Nat) (h : i < l.length) : rd_T32 (l.map toR) (i : Int) = toR (rd_T26 l (i : Int)) := by
  have h1 := rd_get l i h
  unfold rd_T32
  rw [Int.toNat_natCast, List.getD_eq_getElem?_getD, List.getElem?_map, h1]
  rfl
theorem lOf1_ok (x : CS) (h : W32 x) : prolepsislaw05_Of.f x.f0 x.f1.f0 x.f1.f1 x.f2 x.f3.f0 x.f3.f1 x.f3.f2 = some (x.f0, x.f1.f0, x.f1.f1, x.f2, x.f3.f0, x.f3.f1, x.f3.f2) := by
  obtain ⟨h0, h1, h2, -⟩ := h
  unfold prolepsislaw05_Of.f
  rw [w64 (by omega) (by omega), w64 (by omega) (by omega), w64 (by omega) (by omega)]
theorem Of_l (l : List CS) (h : ∀ x ∈ l, W32 x) (hl : l.length ≤ 1000000) : ∀ (d i k : Nat) (o : List RC), i + d = l.length → o.length = i → d < k → prolepsislaw06_Of.l0 k l o (i : Int) = some (o ++ (l.drop i).map toR) := by
  intro d
  induction d with
  | zero =>
    intro i k o hi ho hk
    obtain ⟨k, rfl⟩ := kp hk
    rw [prolepsislaw06_Of.l0, if_neg (by omega), List.drop_eq_nil_of_le (by omega)]
    simp
  | succ d ih =>
    intro i k o hi ho hk
    obtain ⟨k, rfl⟩ := kp hk
    have hil : i < l.length := by omega
    have hd : l.drop i = rd_T26 l (i : Int) :: l.drop (i + 1) := by
      rw [List.drop_eq_getElem_cons hil]
      congr 1
      have := rd_get l i hil
      rw [List.getElem?_eq_getElem hil] at this
      exact Option.some.inj this
    rw [prolepsislaw06_Of.l0, if_pos (by omega), if_pos (by omega), lOf1_ok _ (h _ (rd_mem l i hil))]
    simp only [Option.bind_some]
    rw [if_pos (by omega), w64 (by omega) (by omega), cast1, ih (i + 1) k _ (by omega) (by simp; omega) (by omega), hd]
    simp [toR]
theorem Of_ok (l : List CS) (h : ∀ x ∈ l, W32 x) (hl : l.length ≤ 1000000) (k : Nat) (hk : l.length < k) : prolepsislaw06_Of.f k l = some (l.map toR) := by
  unfold prolepsislaw06_Of.f
  have := Of_l l h hl l.length 0 k [] (by omega) rfl hk
  simpa using this
theorem r4_ok (a b c : Int) : prolepsisref04_Right.f a b c = some (penR a b c) := by
  unfold prolepsisref04_Right.f penR
  by_cases h1 : a ≤ 31 <;> by_cases h2 : b ≤ 16 <;> by_cases h3 : c ≤ 16 <;> simp [h1, h2, h3] <;> omega
def restC (c0 c1 c2 c3 : Int) : Bool := if c3 = 0 then (c0 == 0 && (c1 == 0 && c2 == 0)) else ((wOf c0 == c3) && tailC c1 c2)
theorem rj_ok (b : Bool) (c0 c1 c2 c3 c4 c5 c6 : Int) (h8 : 0 ≤ c3 ∧ c3 ≤ 255) (k : Nat) (hk : 30 ≤ k) : prolepsisref05_Right.j0 k b c0 c1 c2 c3 c4 c5 c6 = some (!b && restC c0 c1 c2 c3) := by
  obtain ⟨k, rfl⟩ : ∃ m, k = m + 1 := ⟨k - 1, by omega⟩
  rw [prolepsisref05_Right.j0, w64 (by omega) (by omega), rOf c0 k (by omega), rOf c1 k (by omega), rOf c2 k (by omega)]
  simp only [Option.bind_some]
  unfold restC tailC
  cases b
  · by_cases h3 : c3 = 0
    · by_cases a0 : c0 = 0 <;> by_cases a1 : c1 = 0 <;> simp [h3, a0, a1]
    · by_cases a : wOf c0 = c3
      · by_cases a1 : c1 = 0 <;> by_cases a2 : c2 = 0 <;> by_cases b1 : wOf c1 = 0 <;> simp [h3, a, a1, a2, b1]
      · simp [h3, a]
  · simp
theorem rRight_ok (c0 c1 c2 c3 c4 c5 c6 : Int) (h8 : 0 ≤ c3 ∧ c3 ≤ 255) (k : Nat) (hk : 30 ≤ k) : prolepsisref05_Right.f k c0 c1 c2 c3 c4 c5 c6 = some (rightC c0 c1 c2 c3 c4 c5 c6) := by
  unfold prolepsisref05_Right.f rightC
  rw [r4_ok]
  simp only [Option.bind_some, rj_ok _ _ _ _ _ _ _ _ h8 k hk, restC]
  cases penR c4 c5 c6
  · simp
  · by_cases h3 : c3 = 0
    · simp [h3]
    · by_cases h2 : c3 ≤ 2
      · simp [h3, h2, show ¬ 2 < c3 by omega]
      · simp [h3, h2, show 2 < c3 by omega]
theorem hasW_at (l : List CS) (i : Nat) (v : Int) (h : i < l.length) : hasW l i v = decide ((rd_T26 l (i : Int)).f2 = v) := by
  unfold hasW
  rw [rd_get l i h]
theorem hasW_out (l : List CS) (i : Nat) (v : Int) (h : l.length ≤ i) : hasW l i v = false := by
  unfold hasW
  rw [List.getElem?_eq_none h]
theorem ralone_ok (l : List CS) (i : Nat) (h : i < l.length) (hl : l.length ≤ 1000000) : prolepsisref06_alone.f (l.map toR) (i : Int) = some (aloneN l i) := by
  unfold prolepsisref06_alone.f aloneN
  rw [if_pos (by omega), List.length_map, if_pos (by omega), rd_R l i h, hasW_at l i 2 h, hasW_at l i 0 h, w64 (x := (i : Int) + 1) (by omega) (by omega), w64 (x := (i : Int) - 1) (by omega) (by omega), cast1]
  show (if (rd_T26 l (i : Int)).f2 = 2 then _ else if (rd_T26 l (i : Int)).f2 = 0 then _ else _) = _
  by_cases h2 : (rd_T26 l (i : Int)).f2 = 2
  · rw [if_pos h2, h2]
    by_cases h3 : i + 1 < l.length
    · rw [if_neg (by omega), if_pos (by omega), if_pos (by omega), rd_R l (i + 1) h3, hasW_at l (i + 1) 0 h3]
      show some ((rd_T26 l ((i + 1 : Nat) : Int)).f2 != 0) = _
      generalize rd_T26 l ((i + 1 : Nat) : Int) = y
      by_cases h4 : y.f2 = 0 <;> simp [h4]
    · rw [if_pos (by omega), hasW_out l (i + 1) 0 (by omega)]
      simp
  · rw [if_neg h2]
    by_cases h0 : (rd_T26 l (i : Int)).f2 = 0
    · rw [if_pos h0, h0]
      by_cases h3 : i = 0
      · subst h3; simp
      · rw [if_neg (by omega), if_pos (by omega), if_pos (by omega), show (i : Int) - 1 = ((i - 1 : Nat) : Int) by omega, rd_R l (i - 1) (by omega), hasW_at l (i - 1) 2 (by omega)]
        show some ((rd_T26 l ((i - 1 : Nat) : Int)).f2 != 2) = _
        generalize rd_T26 l ((i - 1 : Nat) : Int) = y
        have : 0 < i := by omega
        by_cases h4 : y.f2 = 2 <;> simp [h4, this]
    · rw [if_neg h0]
      simp [h0, h2]
theorem drop_cs (l : List CS) (i : Nat) (h : i < l.length) : l.drop i = rd_T26 l (i : Int) :: l.drop (i + 1) := by
  rw [List.drop_eq_getElem_cons h]
  congr 1
  have := rd_get l i h
  rw [List.getElem?_eq_getElem h] at this
  exact Option.some.inj this
theorem rSame_l (a : List CS) (hl : a.length ≤ 1000000) (b : List CS) (hb : b.length = a.length) : ∀ (d i k : Nat), i + d = a.length → d < k → prolepsisref06_Same.l0 k (a.map toR) (b.map toR) (i : Int) = some (decide (a.drop i = b.drop i)) := by
  intro d
  induction d with
  | zero =>
    intro i k hi hk
    obtain ⟨k, rfl⟩ := kp hk
    rw [prolepsisref06_Same.l0, List.length_map, if_neg (by omega), List.drop_eq_nil_of_le (by omega), List.drop_eq_nil_of_le (by omega)]
    simp
  | succ d ih =>
    intro i k hi hk
    obtain ⟨k, rfl⟩ := kp hk
    rw [prolepsisref06_Same.l0, List.length_map, List.length_map, if_pos (by omega), if_pos (by omega), if_pos (by omega), rd_R a i (by omega), rd_R b i (by omega), drop_cs a i (by omega), drop_cs b i (by omega)]
    generalize rd_T26 a (i : Int) = x
    generalize rd_T26 b (i : Int) = y
    by_cases e : x = y
    · subst e
      rw [if_neg (by simp), w64 (by omega) (by omega), cast1, ih (i + 1) k (by omega) (by omega)]
      simp
    · rw [if_pos]
      · simp [e]
      · dsimp only [toR]
        by_cases h0 : x.f0 = y.f0 <;> by_cases h1 : x.f1.f0 = y.f1.f0 <;> by_cases h2 : x.f1.f1 = y.f1.f1 <;> by_cases h3 : x.f2 = y.f2 <;> by_cases h4 : x.f3.f0 = y.f3.f0 <;> by_cases h5 : x.f3.f1 = y.f3.f1 <;> by_cases h6 : x.f3.f2 = y.f3.f2 <;> first | exact absurd (CS_ext h0 h1 h2 h3 h4 h5 h6) e | simp [*]
theorem rSame_ok (a b : List CS) (hl : a.length ≤ 1000000) (k : Nat) (hk : a.length < k) : prolepsisref06_Same.f k (a.map toR) (b.map toR) = some (decide (a = b)) := by
  unfold prolepsisref06_Same.f
  rw [List.length_map, List.length_map]
  by_cases h : (a.length : Int) = (b.length : Int)
  · rw [if_pos h]
    have := rSame_l a hl b (by omega) a.length 0 k (by omega) hk
    simp only [List.drop_zero] at this
    rw [show ((0 : Int)) = ((0 : Nat) : Int) by rfl, this]
  · rw [if_neg h]
    have : a ≠ b := fun e => h (by rw [e])
    simp [this]
theorem rd_cs (l : List CS) (i : Nat) (h : i < l.length) : rd_T26 l (i : Int) = l[i] := by
  have := rd_get l i h
  rw [List.getElem?_eq_getElem h] at this
  exact (Option.some.inj this).symm
theorem rMend_l (l : List CS) (hl : l.length ≤ 1000000) : ∀ (d i k : Nat) (o : List RC), i + d = l.length → o.length = i → d < k → prolepsisref06_Mend.l0 k (l.map toR) o (i : Int) = some (o ++ ((mendC l).drop i).map toR)
  | 0, i, k + 1, o, hi, ho, hk => by
    rw [prolepsisref06_Mend.l0, if_neg (by rw [List.length_map]; omega), List.drop_eq_nil_of_le (by rw [mend_len]; omega)]
    simp
  | d + 1, i, k + 1, o, hi, ho, hk => by
    have hil : i < l.length := by omega
    have hm : i < (mendC l).length := by rw [mend_len]; omega
    have hd : (mendC l).drop i = (if aloneN l i = true then blankS l[i] else l[i]) :: (mendC l).drop (i + 1) := by
      rw [List.drop_eq_getElem_cons hm]
      congr 1
      have := mend_at l hl i
      rw [List.getElem?_eq_getElem hm, List.getElem?_eq_getElem hil] at this
      exact Option.some.inj this
    rw [prolepsisref06_Mend.l0, if_pos (by rw [List.length_map]; omega), if_pos (by omega), ralone_ok l i hil hl, Option.bind_some, hd]
    by_cases ha : aloneN l i = true
    · rw [if_pos ha, if_pos ha]
      unfold prolepsisref05_Blank.f
      rw [Option.bind_some, if_pos (by omega), w64 (by omega) (by omega), cast1, rMend_l l hl d (i + 1) k _ (by omega) (by simp; omega) (by omega), rd_R l i hil, rd_cs l i hil]
      simp [toR, blankS]
    · rw [if_neg ha, if_neg ha, if_pos (by omega), w64 (by omega) (by omega), cast1, rMend_l l hl d (i + 1) k _ (by omega) (by simp; omega) (by omega), rd_R l i hil, rd_cs l i hil]
      simp [toR]
theorem rMend_ok (l : List CS) (hl : l.length ≤ 1000000) (k : Nat) (hk : l.length < k) : prolepsisref06_Mend.f k (l.map toR) = some ((mendC l).map toR) := by
  unfold prolepsisref06_Mend.f
  have := rMend_l l hl l.length 0 k [] (by omega) rfl hk
  simpa using this
/-- A row told place by place. -/
def fillC (n : Nat) (f : Nat → CS) : List CS := (List.range n).map f
theorem fill_len (n : Nat) (f : Nat → CS) : (fillC n f).length = n := by simp [fillC]
theorem fill_snoc (n : Nat) (f : Nat → CS) : fillC (n + 1) f = fillC n f ++ [f n] := by unfold fillC; rw [List.range_succ]; simp
theorem fill_get (n : Nat) (f : Nat → CS) (j : Nat) : (fillC n f)[j]? = if j < n then some (f j) else none := by
  unfold fillC
  by_cases h : j < n
  · simp [h]
  · simp [h]
theorem fill_eq {n : Nat} {f : Nat → CS} {l : List CS} (h : ∀ j, l[j]? = if j < n then some (f j) else none) : fillC n f = l := List.ext_getElem? fun j => by rw [fill_get, h]
def eraseAt (l : List CS) (a b p0 p1 p2 : Int) (j : Nat) : CS := if a ≤ (j : Int) ∧ (j : Int) < b then blankP p0 p1 p2 else rd_T26 l (j : Int)
theorem rErase_l (l : List CS) (hl : l.length ≤ 100000) (a b p0 p1 p2 : Int) : ∀ (d i k : Nat), i + d = l.length → d + l.length + 2 < k → prolepsisref06_Erase.l0 k (l.map toR) a b ((fillC i (eraseAt l a b p0 p1 p2)).map toR) (i : Int) p0 p1 p2 = some ((mendC (fillC l.length (eraseAt l a b p0 p1 p2))).map toR)
  | 0, i, k + 1, hi, hk => by
    obtain rfl : i = l.length := by omega
    rw [prolepsisref06_Erase.l0, if_neg (by rw [List.length_map]; omega), rMend_ok _ (by rw [fill_len]; omega) k (by rw [fill_len]; omega), Option.bind_some]
  | d + 1, i, k + 1, hi, hk => by
    have hil : i < l.length := by omega
    have ih := rErase_l l hl a b p0 p1 p2 d (i + 1) k (by omega) (by omega)
    have hcast : wrap64 ((i : Int) + 1) = ((i + 1 : Nat) : Int) := by rw [w64 (by omega) (by omega), cast1]
    rw [prolepsisref06_Erase.l0, if_pos (by rw [List.length_map]; omega), if_pos (by omega)]
    rw [fill_snoc, List.map_append] at ih
    by_cases h1 : (i : Int) ≥ a
    · rw [if_pos h1]
      by_cases h2 : (i : Int) < b
      · have he : eraseAt l a b p0 p1 p2 i = blankP p0 p1 p2 := by unfold eraseAt; rw [if_pos ⟨h1, h2⟩]
        rw [he] at ih
        rw [if_pos h2]
        unfold prolepsisref05_Blank.f
        rw [Option.bind_some, if_pos (by rw [List.length_map, fill_len]; omega), hcast]
        exact ih
      · have he : eraseAt l a b p0 p1 p2 i = rd_T26 l (i : Int) := by unfold eraseAt; rw [if_neg (fun h => h2 h.2)]
        rw [he] at ih
        rw [if_neg h2, if_pos (by rw [List.length_map, fill_len]; omega), hcast, rd_R l i hil]
        exact ih
    · have he : eraseAt l a b p0 p1 p2 i = rd_T26 l (i : Int) := by unfold eraseAt; rw [if_neg (fun h => h1 h.1)]
      rw [he] at ih
      rw [if_neg h1, if_pos (by rw [List.length_map, fill_len]; omega), hcast, rd_R l i hil]
      exact ih
theorem clamp_val (x : Int) (n : Nat) : ((clamp x n : Nat) : Int) = (if x < 0 then (0 : Int) else if (n : Int) < x then (n : Int) else x) := by
  rw [← (clamp_eq x n).1]; unfold mn mx; repeat' split
  all_goals omega
theorem erase_fill (l : List CS) (a b p0 p1 p2 : Int) : fillC l.length (eraseAt l a b p0 p1 p2) = laidC l (clamp a l.length) (List.replicate (clamp b l.length - clamp a l.length) (blankP p0 p1 p2)) := by
  have ca := clamp_val a l.length
  have cb := clamp_val b l.length
  have la := (clamp_eq a l.length).2
  have lb := (clamp_eq b l.length).2
  refine fill_eq fun j => ?_
  rw [laidC_get _ _ _ (by rw [List.length_replicate]; omega), List.length_replicate]
  unfold eraseAt
  by_cases hj : j < l.length
  · rw [if_pos hj, rd_cs l j hj, List.getElem?_eq_getElem hj]
    by_cases h1 : j < clamp a l.length
    · rw [if_pos h1, if_neg (by intro h; split at ca <;> (try split at ca) <;> omega)]
    · rw [if_neg h1]
      by_cases h2 : j < clamp a l.length + (clamp b l.length - clamp a l.length)
      · rw [if_pos h2, if_pos (by constructor <;> (split at ca <;> (try split at ca) <;> split at cb <;> (try split at cb) <;> omega))]
        rw [List.getElem?_replicate, if_pos (by omega)]
      · rw [if_neg h2, if_neg (by intro h; split at ca <;> (try split at ca) <;> split at cb <;> (try split at cb) <;> omega)]
  · rw [if_neg hj, if_neg (by omega), if_neg (by omega), List.getElem?_eq_none (by omega)]
theorem rErase_ok (l : List CS) (hl : l.length ≤ 100000) (a b p0 p1 p2 : Int) (k : Nat) (hk : 2 * l.length + 2 < k) : prolepsisref06_Erase.f k (l.map toR) a b p0 p1 p2 = some ((eraseC l a b p0 p1 p2).map toR) := by
  unfold prolepsisref06_Erase.f eraseC
  rw [← erase_fill]
  exact rErase_l l hl a b p0 p1 p2 l.length 0 k (by omega) (by omega)
theorem rlen_ok (n : Int) : prolepsisref06_length.f n = some ((lenC n : Nat) : Int) := by
  rw [← (lenC_eq n).1]
  unfold prolepsisref06_length.f mn mx
  repeat' split
  all_goals (first | rfl | (congr 1; omega) | (exfalso; omega))
def fitAt (l : List CS) (j : Nat) : CS := if (j : Int) < (l.length : Int) then rd_T26 l (j : Int) else blankP 0 0 0
theorem rFit_l (l : List CS) (hl : l.length ≤ 100000) (n : Int) : ∀ (d i k : Nat), i + d = lenC n → d + 600 < k → prolepsisref06_Fit.l0 k (l.map toR) n ((fillC i (fitAt l)).map toR) (i : Int) = some ((mendC (fillC (lenC n) (fitAt l))).map toR)
  | 0, i, k + 1, hi, hk => by
    have hn := (lenC_eq n).2
    obtain rfl : i = lenC n := by omega
    rw [prolepsisref06_Fit.l0, rlen_ok, Option.bind_some, if_neg (by omega), rMend_ok _ (by rw [fill_len]; omega) k (by rw [fill_len]; omega), Option.bind_some]
  | d + 1, i, k + 1, hi, hk => by
    have hn := (lenC_eq n).2
    have ih := rFit_l l hl n d (i + 1) k (by omega) (by omega)
    have hcast : wrap64 ((i : Int) + 1) = ((i + 1 : Nat) : Int) := by rw [w64 (by omega) (by omega), cast1]
    rw [fill_snoc, List.map_append] at ih
    rw [prolepsisref06_Fit.l0, rlen_ok, Option.bind_some, if_pos (by omega)]
    unfold prolepsisref05_Blank.f
    rw [Option.bind_some, List.length_map]
    by_cases h : (i : Int) < (l.length : Int)
    · have he : fitAt l i = rd_T26 l (i : Int) := by unfold fitAt; rw [if_pos h]
      rw [he] at ih
      rw [if_pos h, if_pos (by omega), if_pos (by rw [List.length_map, fill_len]; omega), hcast, rd_R l i (by omega)]
      exact ih
    · have he : fitAt l i = blankP 0 0 0 := by unfold fitAt; rw [if_neg h]
      rw [he] at ih
      rw [if_neg h, if_pos (by rw [List.length_map, fill_len]; omega), hcast]
      exact ih
theorem fit_fill (l : List CS) (n : Int) : fillC (lenC n) (fitAt l) = (l ++ List.replicate (lenC n - l.length) (blankP 0 0 0)).take (lenC n) := by
  refine fill_eq fun j => ?_
  unfold fitAt
  by_cases hj : j < lenC n
  · rw [if_pos hj, List.getElem?_take, if_pos hj]
    by_cases h : (j : Int) < (l.length : Int)
    · rw [if_pos h, List.getElem?_append_left (by omega), rd_cs l j (by omega), List.getElem?_eq_getElem (by omega)]
    · rw [if_neg h, List.getElem?_append_right (by omega), List.getElem?_replicate, if_pos (by omega)]
  · rw [if_neg hj, List.getElem?_take, if_neg hj]
theorem rFit_ok (l : List CS) (hl : l.length ≤ 100000) (n : Int) (k : Nat) (hk : 1200 < k) : prolepsisref06_Fit.f k (l.map toR) n = some ((fitC l n).map toR) := by
  have hn := (lenC_eq n).2
  unfold prolepsisref06_Fit.f fitC
  rw [← fit_fill]
  exact rFit_l l hl n (lenC n) 0 k (by omega) (by omega)
theorem rNew_l (n : Int) : ∀ (d i k : Nat), i + d = lenC n → d < k → prolepsisref06_New.l0 k n ((List.replicate i (blankP 0 0 0)).map toR) (i : Int) = some ((List.replicate (lenC n) (blankP 0 0 0)).map toR)
  | 0, i, k + 1, hi, hk => by
    obtain rfl : i = lenC n := by omega
    rw [prolepsisref06_New.l0, rlen_ok, Option.bind_some, if_neg (by omega)]
  | d + 1, i, k + 1, hi, hk => by
    have hn := (lenC_eq n).2
    have ih := rNew_l n d (i + 1) k (by omega) (by omega)
    rw [List.replicate_succ', List.map_append] at ih
    rw [prolepsisref06_New.l0, rlen_ok, Option.bind_some, if_pos (by omega)]
    unfold prolepsisref05_Blank.f
    rw [Option.bind_some, if_pos (by rw [List.length_map, List.length_replicate]; omega), w64 (by omega) (by omega), cast1]
    exact ih
theorem rNew_ok (n : Int) (k : Nat) (hk : 600 < k) : prolepsisref06_New.f k n = some ((List.replicate (lenC n) (blankP 0 0 0)).map toR) := by
  have hn := (lenC_eq n).2
  unfold prolepsisref06_New.f
  exact rNew_l n (lenC n) 0 k (by omega) (by omega)
def putAt (l : List CS) (i : Nat) (c : CS) (j : Nat) : CS := if j = i then c else if j = i + 1 ∧ c.f2 = 2 then restS c else rd_T26 l (j : Int)
theorem rPut_l (l : List CS) (hl : l.length ≤ 100000) (i : Nat) (hil : i < l.length) (c : CS) : ∀ (d j k : Nat), j + d = l.length → d + l.length + 2 < k → prolepsisref06_Put.l0 k (l.map toR) (i : Int) ((fillC j (putAt l i c)).map toR) (j : Int) c.f0 c.f1.f0 c.f1.f1 c.f2 c.f3.f0 c.f3.f1 c.f3.f2 = some ((mendC (fillC l.length (putAt l i c))).map toR, true)
  | 0, j, k + 1, hi, hk => by
    obtain rfl : j = l.length := by omega
    rw [prolepsisref06_Put.l0, if_neg (by rw [List.length_map]; omega), rMend_ok _ (by rw [fill_len]; omega) k (by rw [fill_len]; omega), Option.bind_some]
  | d + 1, j, k + 1, hi, hk => by
    have hjl : j < l.length := by omega
    have ih := rPut_l l hl i hil c d (j + 1) k (by omega) (by omega)
    have hcast : wrap64 ((j : Int) + 1) = ((j + 1 : Nat) : Int) := by rw [w64 (by omega) (by omega), cast1]
    have hcast2 : wrap64 ((i : Int) + 1) = ((i + 1 : Nat) : Int) := by rw [w64 (by omega) (by omega), cast1]
    rw [fill_snoc, List.map_append] at ih
    rw [prolepsisref06_Put.l0, if_pos (by rw [List.length_map]; omega)]
    by_cases h1 : j = i
    · have he : putAt l i c j = c := by unfold putAt; rw [if_pos h1]
      rw [he] at ih
      rw [if_pos (by omega), if_pos (by rw [List.length_map, fill_len]; omega), hcast]
      exact ih
    · rw [if_neg (by omega), hcast2]
      by_cases h2 : j = i + 1
      · rw [if_pos (by omega)]
        by_cases h3 : c.f2 = 2
        · have he : putAt l i c j = restS c := by unfold putAt; rw [if_neg h1, if_pos ⟨h2, h3⟩]
          rw [he] at ih
          rw [if_pos h3]
          unfold prolepsisref05_Rest.f
          rw [Option.bind_some, if_pos (by rw [List.length_map, fill_len]; omega), hcast]
          exact ih
        · have he : putAt l i c j = rd_T26 l (j : Int) := by unfold putAt; rw [if_neg h1, if_neg (fun h => h3 h.2)]
          rw [he] at ih
          rw [if_neg h3, if_pos (by omega), if_pos (by rw [List.length_map, fill_len]; omega), hcast, rd_R l j hjl]
          exact ih
      · have he : putAt l i c j = rd_T26 l (j : Int) := by unfold putAt; rw [if_neg h1, if_neg (fun h => h2 h.1)]
        rw [he] at ih
        rw [if_neg (by omega), if_pos (by omega), if_pos (by rw [List.length_map, fill_len]; omega), hcast, rd_R l j hjl]
        exact ih
theorem put_fill (l : List CS) (i : Nat) (c : CS) (hc : c.f2 = 1 ∨ c.f2 = 2) (hi : (i : Int) + c.f2 ≤ l.length) : fillC l.length (putAt l i c) = laidC l i (if c.f2 = 2 then [c, restS c] else [c]) := by
  refine fill_eq fun j => ?_
  unfold putAt
  by_cases h2 : c.f2 = 2
  · rw [if_pos h2, laidC_get _ _ _ (by simp; omega)]
    simp only [h2, and_true, List.length_cons, List.length_nil]
    by_cases hj : j < l.length
    · rw [if_pos hj, rd_cs l j hj, List.getElem?_eq_getElem hj]
      by_cases a1 : j = i
      · subst a1; simp
      · by_cases a2 : j = i + 1
        · subst a2
          rw [if_neg a1, if_pos rfl, if_neg (by omega), if_pos (by omega)]
          simp
        · rw [if_neg a1, if_neg a2]
          by_cases a3 : j < i
          · rw [if_pos a3]
          · rw [if_neg a3, if_neg (by omega)]
    · rw [if_neg hj, if_neg (by omega), if_neg (by omega), List.getElem?_eq_none (by omega)]
  · rw [if_neg h2, laidC_get _ _ _ (by simp; omega)]
    simp only [h2, and_false, if_false, List.length_cons, List.length_nil]
    by_cases hj : j < l.length
    · rw [if_pos hj, rd_cs l j hj, List.getElem?_eq_getElem hj]
      by_cases a1 : j = i
      · subst a1; simp
      · rw [if_neg a1]
        by_cases a3 : j < i
        · rw [if_pos a3]
        · rw [if_neg a3, if_neg (by omega)]
    · rw [if_neg hj, if_neg (by omega), if_neg (by omega), List.getElem?_eq_none (by omega)]
theorem rPut_ok (l : List CS) (i : Int) (c : CS) (h8 : 0 ≤ c.f2 ∧ c.f2 ≤ 255) (hl : l.length ≤ 100000) (k : Nat) (hk : 2 * l.length + 40 < k) :
    prolepsisref06_Put.f k (l.map toR) i c.f0 c.f1.f0 c.f1.f1 c.f2 c.f3.f0 c.f3.f1 c.f3.f2 = some ((putC l i c).map toR, putOk l i c) := by
  obtain ⟨k, rfl⟩ := kp (show 0 < k by omega)
  have jno : ∀ b, b = true → putOk l i c = false → prolepsisref06_Put.j0 (k + 1) (l.map toR) i b c.f0 c.f1.f0 c.f1.f1 c.f2 c.f3.f0 c.f3.f1 c.f3.f2 = some ((putC l i c).map toR, putOk l i c) := by
    intro b hb hp
    rw [prolepsisref06_Put.j0, if_pos hb]
    unfold putC
    rw [hp]; simp
  unfold prolepsisref06_Put.f
  rw [rRight_ok _ _ _ _ _ _ _ h8 (k + 1) (by omega), Option.bind_some]
  by_cases hR : rightC c.f0 c.f1.f0 c.f1.f1 c.f2 c.f3.f0 c.f3.f1 c.f3.f2 = true
  · have hRS : rightS c = true := hR
    rw [if_pos hR]
    have hle := right_le hRS
    by_cases h0 : c.f2 = 0
    · rw [if_pos h0]
      exact jno true rfl (by unfold putOk; simp [h0])
    · rw [if_neg h0]
      by_cases h1 : i < 0
      · rw [if_pos h1]
        exact jno true rfl (by unfold putOk; simp; omega)
      · rw [if_neg h1, List.length_map]
        by_cases h2 : i ≥ (l.length : Int)
        · rw [if_pos h2]
          exact jno true rfl (by unfold putOk; simp; omega)
        · rw [if_neg h2]
          obtain ⟨n, rfl⟩ : ∃ n : Nat, i = n := ⟨i.toNat, by omega⟩
          have yes : ∀ b, b = false → (n : Int) + c.f2 ≤ l.length → prolepsisref06_Put.j0 (k + 1) (l.map toR) (n : Int) b c.f0 c.f1.f0 c.f1.f1 c.f2 c.f3.f0 c.f3.f1 c.f3.f2 = some ((putC l (n : Int) c).map toR, putOk l (n : Int) c) := by
            intro b hb hn
            rw [prolepsisref06_Put.j0, if_neg (by rw [hb]; decide)]
            have hp : putOk l (n : Int) c = true := by unfold putOk; simp [h0, hRS]; omega
            unfold putC
            rw [hp, if_pos rfl, Int.toNat_natCast, ← put_fill l n c (by omega) hn]
            exact rPut_l l hl n (by omega) c l.length 0 k (by omega) (by omega)
          by_cases h3 : c.f2 = 2
          · rw [if_pos h3, w64 (by omega) (by omega)]
            by_cases h4 : (n : Int) = (l.length : Int) - 1
            · exact jno _ (by simpa using h4) (by unfold putOk; simp; omega)
            · exact yes _ (by simpa using h4) (by omega)
          · rw [if_neg h3]
            exact yes false rfl (by omega)
  · rw [if_neg hR]
    exact jno true rfl (by unfold putOk rightS; simp [hR])
theorem rMark1 (c0 c1 c2 c3 c4 c5 c6 r : Int) (k : Nat) (hk : 30 ≤ k) : prolepsisref05_Mark.f k c0 c1 c2 c3 c4 c5 c6 r = some (markC c0 c1 c2 c3 c4 c5 c6 r) := by
  obtain ⟨k, rfl⟩ := kp (show 0 < k by omega)
  have j : ∀ b, prolepsisref05_Mark.j0 (k + 1) r b c0 c1 c2 c3 c4 c5 c6 = some (if b = true then (c0, c1, c2, c3, c4, c5, c6, false) else if c1 = 0 then (c0, r, c2, c3, c4, c5, c6, true) else if c2 = 0 then (c0, c1, r, c3, c4, c5, c6, true) else (c0, c1, c2, c3, c4, c5, c6, false)) := by
    intro b
    rw [prolepsisref05_Mark.j0]
    repeat' split
    all_goals rfl
  unfold prolepsisref05_Mark.f markC
  rw [rOf r (k + 1) (by omega)]
  simp only [Option.bind_some, j]
  by_cases h : wOf r = 0 <;> by_cases h1 : c3 = 1 <;> by_cases h2 : c3 = 2 <;> simp [h, h1, h2]
theorem rMarkL_ok (l : List CS) (i r : Int) (hl : l.length ≤ 100000) (k : Nat) (hk : 40 < k) : prolepsisref06_Mark.f k (l.map toR) i r = some ((markL l i r).map toR, markOk l i r) := by
  obtain ⟨k, rfl⟩ := kp (show 0 < k by omega)
  have hlm : (l.map toR).length = l.length := List.length_map ..
  unfold prolepsisref06_Mark.f
  rw [hlm]
  by_cases h0 : i < 0
  · rw [if_pos h0, prolepsisref06_Mark.j0, if_pos rfl]
    unfold markL markOk
    have hin : ¬ (0 ≤ i ∧ i < (l.length : Int)) := by omega
    rw [if_neg hin, decide_eq_false hin]; rfl
  · rw [if_neg h0]
    by_cases h1 : i ≥ (l.length : Int)
    · rw [decide_eq_true h1, prolepsisref06_Mark.j0, if_pos rfl]
      unfold markL markOk
      have hin : ¬ (0 ≤ i ∧ i < (l.length : Int)) := by omega
      rw [if_neg hin, decide_eq_false hin]; rfl
    · obtain ⟨n, rfl⟩ : ∃ n : Nat, i = n := ⟨i.toNat, by omega⟩
      have hn : n < l.length := by omega
      have fin : ∀ m : Nat, m < l.length → ∀ (F : Int × Int × Int × Int × Int × Int × Int × Bool → Option (List RC × Bool)), (∀ t, F t = some ((l.map toR).set m (⟨t.1, ⟨t.2.1, t.2.2.1⟩, t.2.2.2.1, ⟨t.2.2.2.2.1, t.2.2.2.2.2.1, t.2.2.2.2.2.2.1⟩⟩ : RC), t.2.2.2.2.2.2.2)) →
          (prolepsisref05_Mark.f k (rd_T32 (l.map toR) (m : Int)).f0 (rd_T32 (l.map toR) (m : Int)).f1.f0 (rd_T32 (l.map toR) (m : Int)).f1.f1 (rd_T32 (l.map toR) (m : Int)).f2 (rd_T32 (l.map toR) (m : Int)).f3.f0 (rd_T32 (l.map toR) (m : Int)).f3.f1 (rd_T32 (l.map toR) (m : Int)).f3.f2 r).bind F = some ((l.set m (markS (rd_T26 l (m : Int)) r)).map toR, markB (rd_T26 l (m : Int)) r) := by
        intro m hm F hF
        rw [rMark1 _ _ _ _ _ _ _ r k (by omega), Option.bind_some, hF, rd_R l m hm, List.map_set]
        rfl
      have hA := hasW_at' l n 0 hn
      have hF : ∀ m : Nat, m < l.length → ∀ t : Int × Int × Int × Int × Int × Int × Int × Bool, ((some (([] : List RC) : List RC)).bind fun y => (if y.length + (l.map toR).length < 4398046511104 then ((some (y ++ l.map toR : List RC)).bind fun z => (if (m : Int) < (z.length : Int) then (some ((z.set ((m : Int) : Int).toNat (⟨t.1, (⟨t.2.1, t.2.2.1⟩ : S29), t.2.2.2.1, (⟨t.2.2.2.2.1, t.2.2.2.2.2.1, t.2.2.2.2.2.2.1⟩ : S30)⟩ : RC)), t.2.2.2.2.2.2.2)) else (none))) else (none))) = some ((l.map toR).set m (⟨t.1, ⟨t.2.1, t.2.2.1⟩, t.2.2.2.1, ⟨t.2.2.2.2.1, t.2.2.2.2.2.1, t.2.2.2.2.2.2.1⟩⟩ : RC), t.2.2.2.2.2.2.2) := by
        intro m hm t
        rw [Option.bind_some, if_pos (by rw [hlm]; simp; omega), Option.bind_some, if_pos (by rw [List.nil_append, hlm]; omega), List.nil_append, Int.toNat_natCast]
      rw [decide_eq_false h1, prolepsisref06_Mark.j0, if_neg (by simp), if_pos (by omega), if_pos (by rw [hlm]; omega)]
      unfold markL markOk
      have hin : 0 ≤ (n : Int) ∧ (n : Int) < (l.length : Int) := by omega
      rw [if_pos hin, decide_eq_true hin, Bool.true_and, Int.toNat_natCast]
      have hf2 : (rd_T32 (l.map toR) (n : Int)).f2 = (rd_T26 l (n : Int)).f2 := by rw [rd_R l n hn]; rfl
      by_cases h2 : (rd_T26 l (n : Int)).f2 = 0
      · rw [if_pos (by rw [hf2]; exact h2)]
        by_cases h3 : 0 < n
        · rw [if_pos (by omega), w64 (by omega) (by omega), show (n : Int) - 1 = ((n - 1 : Nat) : Int) by omega, if_pos (by omega), if_pos (by rw [hlm]; omega)]
          have hB := hasW_at' l (n - 1) 2 (by omega)
          have hg2 : (rd_T32 (l.map toR) ((n - 1 : Nat) : Int)).f2 = (rd_T26 l ((n - 1 : Nat) : Int)).f2 := by rw [rd_R l (n - 1) (by omega)]; rfl
          by_cases h4 : (rd_T26 l ((n - 1 : Nat) : Int)).f2 = 2
          · rw [if_pos (by rw [hg2]; exact h4)]
            have hm : markAt l n = n - 1 := by unfold markAt; rw [hA, hB]; simp [h2, h4, h3]
            rw [hm]
            exact fin (n - 1) (by omega) _ (fun t => hF (n - 1) (by omega) t)
          · rw [if_neg (by rw [hg2]; exact h4)]
            have hm : markAt l n = n := by unfold markAt; rw [hA, hB]; simp [h4]
            rw [hm]
            exact fin n hn _ (fun t => hF n hn t)
        · rw [if_neg (by omega)]
          have hm : markAt l n = n := by unfold markAt; simp [h3]
          rw [hm]
          exact fin n hn _ (fun t => hF n hn t)
      · rw [if_neg (by rw [hf2]; exact h2)]
        have hm : markAt l n = n := by unfold markAt; rw [hA]; simp [h2]
        rw [hm]
        exact fin n hn _ (fun t => hF n hn t)
theorem w32_mend {l : List CS} (h : ∀ x ∈ l, W32 x) : ∀ x ∈ mendC l, W32 x := by
  intro x hx
  unfold mendC at hx
  rw [List.mem_mapIdx] at hx
  obtain ⟨i, hi, rfl⟩ := hx
  split
  · exact ⟨by show (-2147483648 : Int) ≤ 32 ∧ (32 : Int) ≤ _; omega, by show (-2147483648 : Int) ≤ 0 ∧ (0 : Int) ≤ _; omega, by show (-2147483648 : Int) ≤ 0 ∧ (0 : Int) ≤ _; omega, by show (0 : Int) ≤ 1 ∧ (1 : Int) ≤ _; omega⟩
  · exact h _ (List.getElem_mem hi)
theorem w32_blankP (p0 p1 p2 : Int) : W32 (blankP p0 p1 p2) := ⟨by show (-2147483648 : Int) ≤ 32 ∧ (32 : Int) ≤ _; omega, by show (-2147483648 : Int) ≤ 0 ∧ (0 : Int) ≤ _; omega, by show (-2147483648 : Int) ≤ 0 ∧ (0 : Int) ≤ _; omega, by show (0 : Int) ≤ 1 ∧ (1 : Int) ≤ _; omega⟩
theorem w32_rest (c : CS) : W32 (restS c) := ⟨by show (-2147483648 : Int) ≤ 0 ∧ (0 : Int) ≤ _; omega, by show (-2147483648 : Int) ≤ 0 ∧ (0 : Int) ≤ _; omega, by show (-2147483648 : Int) ≤ 0 ∧ (0 : Int) ≤ _; omega, by show (0 : Int) ≤ 0 ∧ (0 : Int) ≤ _; omega⟩
theorem mem_laid' {l : List CS} {i : Nat} {l2 : List CS} {y : CS} (h : y ∈ laidC l i l2) : y ∈ l ∨ y ∈ l2 := by
  unfold laidC at h
  rcases List.mem_append.1 h with h | h
  · rcases List.mem_append.1 h with h | h
    · exact .inl (List.mem_of_mem_take h)
    · exact .inr h
  · exact .inl (List.mem_of_mem_drop h)
theorem w32_put {l : List CS} (h : ∀ x ∈ l, W32 x) (i : Int) {c : CS} (hc : W32 c) : ∀ x ∈ putC l i c, W32 x := by
  unfold putC
  split
  · refine w32_mend fun x hx => ?_
    rcases mem_laid' hx with hx | hx
    · exact h x hx
    · split at hx
      · simp at hx
        rcases hx with rfl | rfl
        · exact hc
        · exact w32_rest c
      · simp at hx; rw [hx]; exact hc
  · exact h
theorem w32_erase {l : List CS} (h : ∀ x ∈ l, W32 x) (a b p0 p1 p2 : Int) : ∀ x ∈ eraseC l a b p0 p1 p2, W32 x := by
  unfold eraseC
  refine w32_mend fun x hx => ?_
  rcases mem_laid' hx with hx | hx
  · exact h x hx
  · rw [(List.mem_replicate.1 hx).2]; exact w32_blankP _ _ _
theorem w32_fit {l : List CS} (h : ∀ x ∈ l, W32 x) (n : Int) : ∀ x ∈ fitC l n, W32 x := by
  unfold fitC
  refine w32_mend fun x hx => ?_
  rcases List.mem_append.1 (List.mem_of_mem_take hx) with hx | hx
  · exact h x hx
  · rw [(List.mem_replicate.1 hx).2]; exact w32_blankP _ _ _
theorem w32_markS {x : CS} (h : W32 x) {r : Int} (hr : -2147483648 ≤ r ∧ r ≤ 2147483647) : W32 (markS x r) := by
  obtain ⟨h0, h1, h2, h3⟩ := h
  unfold markS markC
  repeat' split
  all_goals exact ⟨by assumption, by assumption, by assumption, by assumption⟩
theorem w32_mark {l : List CS} (h : ∀ x ∈ l, W32 x) (i : Int) {r : Int} (hr : -2147483648 ≤ r ∧ r ≤ 2147483647) : ∀ x ∈ markL l i r, W32 x := by
  unfold markL
  split
  · rename_i hin
    intro x hx
    rcases List.mem_or_eq_of_mem_set hx with hx | rfl
    · exact h x hx
    · have hm := markAt_le l i.toNat
      exact w32_markS (h _ (rd_mem l _ (by omega))) hr
  · exact h
theorem lSame_ok (l : List CS) (h : ∀ x ∈ l, W32 x) (hl : l.length ≤ 100000) (k : Nat) (hk : l.length < k) : prolepsislaw06_Same.f k l (l.map toR) = some true := by
  unfold prolepsislaw06_Same.f
  rw [Of_ok l h (by omega) k hk, Option.bind_some, rSame_ok l l (by omega) k hk, Option.bind_some, decide_eq_true rfl]
theorem LineMakes_true (l0 : List CS) (c : CS) (i n p0 p1 p2 r : Int) (hc : W32 c) (hi : -9223372036854775808 ≤ i ∧ i ≤ 9223372036854775807) (hr : -2147483648 ≤ r ∧ r ≤ 2147483647) (h8 : ∀ x ∈ l0, W32 x) :
    prolepsislaw06_LineMakes.f 3000 l0 c.f0 c.f1.f0 c.f1.f1 c.f2 c.f3.f0 c.f3.f1 c.f3.f2 i n p0 p1 p2 r = some true := by
  unfold prolepsislaw06_LineMakes.f
  rw [Cut_ok l0, Option.bind_some]
  have hL : (l0.take 30).length ≤ 30 := by rw [List.length_take]; omega
  have h8L : ∀ x ∈ l0.take 30, W32 x := fun x hx => h8 x (List.mem_of_mem_take hx)
  generalize l0.take 30 = l at hL h8L
  have hn := (lenC_eq n).2
  rw [Of_ok l h8L (by omega) 3000 (by omega), Option.bind_some, Put_ok l i c hi hc.2.2.2 (by omega) 3000 (by omega), Option.bind_some, lOf1_ok c hc, Option.bind_some]
  dsimp only
  rw [rPut_ok l i c hc.2.2.2 (by omega) 3000 (by omega), Option.bind_some, Mark_ok l i r (by omega) 3000 (by omega), Option.bind_some, w64 (by omega) (by omega), rMarkL_ok l i r (by omega) 3000 (by omega), Option.bind_some, show prolepsislaw06_known.f = some true from rfl, Option.bind_some, if_pos rfl]
  dsimp only
  have hpl := put_len l i c hc.2.2.2.1
  have hel := erase_len l i n p0 p1 p2
  have hml := markL_len l i r
  have hfl := fit_len l n
  rw [lSame_ok _ (w32_put h8L i hc) (by omega) 3000 (by omega), Option.bind_some, if_pos rfl, if_pos (by simp), lSame_ok _ (w32_mark h8L i hr) (by omega) 3000 (by omega), Option.bind_some, if_pos rfl, if_pos (by simp)]
  rw [Erase_ok l i n p0 p1 p2 (by omega) 3000 (by omega), Option.bind_some, rErase_ok l (by omega) i n p0 p1 p2 3000 (by omega), Option.bind_some, lSame_ok _ (w32_erase h8L i n p0 p1 p2) (by omega) 3000 (by omega), Option.bind_some, if_pos rfl]
  rw [Fit_ok l n (by omega) 3000 (by omega), Option.bind_some, rFit_ok l (by omega) n 3000 (by omega), Option.bind_some, lSame_ok _ (w32_fit h8L n) (by omega) 3000 (by omega), Option.bind_some, if_pos rfl]
  rw [show line_Mend.f l = some (mendC l) by unfold line_Mend.f; rw [if_pos (by omega)], Option.bind_some, rMend_ok l (by omega) 3000 (by omega), Option.bind_some, lSame_ok _ (w32_mend h8L) (by rw [mend_len]; omega) 3000 (by rw [mend_len]; omega), Option.bind_some, if_pos rfl]
  rw [New_ok n 3000 (by omega), Option.bind_some, rNew_ok n 3000 (by omega), Option.bind_some, lSame_ok _ (fun x hx => by rw [(List.mem_replicate.1 hx).2]; exact w32_blankP _ _ _) (by rw [List.length_replicate]; omega) 3000 (by rw [List.length_replicate]; omega), Option.bind_some, if_pos rfl]
  rw [lSame_ok l h8L (by omega) 3000 (by omega)]
  rfl
end Go.Proofs.Ytblcmcdifgclcaa.Pure
