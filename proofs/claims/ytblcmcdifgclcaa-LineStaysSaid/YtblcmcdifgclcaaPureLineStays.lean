/- LineStays, the plain part. No condition but that the numbers are of their kinds. -/
import Derived.Test.YtblcmcdifgclcaaPLineStaysL
import Derived.OpenShut
namespace Go.Proofs.Ytblcmcdifgclcaa.Pure
open Go.RowKit Go.Proofs.Ytblcmcdifgclcaa.PLineStays Go.Proofs.YtblcmcdifgclcaaW.PrintWords Go.Proofs.YtblcmcdifgclcaaW.PrintLast Go.Proofs.YtblcmcdifgclcaaW.PrintMore
set_option linter.unusedVariables false
set_option linter.unusedSimpArgs false
theorem w64 {x : Int} (h0 : -9223372036854775808 ≤ x) (h1 : x < 9223372036854775808) : wrap64 x = x := by unfold wrap64; omega
theorem kp {d k : Nat} (h : d < k) : ∃ m, k = m + 1 := ⟨k - 1, by omega⟩
theorem drop_rd {xs : List Int} {i : Nat} (h : i < xs.length) : xs.drop i = rd xs (i : Int) :: xs.drop (i + 1) := by
  rw [List.drop_eq_getElem_cons h]
  simp [rd, List.getD_eq_getElem?_getD, h]
theorem rd_in {xs : List Int} {i : Nat} (h : i < xs.length) : rd xs (i : Int) ∈ xs := by
  simp [rd, List.getD_eq_getElem?_getD, h]
theorem cast1 (i : Nat) : ((i : Int) + 1) = ((i + 1 : Nat) : Int) := by omega
theorem wOf_bounds (r : Int) : -1 ≤ wOf r ∧ wOf r ≤ 2 := by unfold wOf; split <;> (try split) <;> (try split) <;> omega
theorem wPos_bounds (r : Int) : 0 ≤ wPos r ∧ wPos r ≤ 2 := by have := wOf_bounds r; unfold wPos; split <;> omega
theorem in32 {x : Int} (h : (Lit.int .i32 x).wf = true) : -2147483648 ≤ x ∧ x ≤ 2147483647 := by have := bounds_i32 h; omega
theorem mn_len {n : Nat} {c : Int} (hc : 0 ≤ c) : 0 ≤ mn (n : Int) c ∧ mn (n : Int) c ≤ n ∧ mn (n : Int) c ≤ c := by unfold mn; split <;> omega
theorem CS_ext {x y : CS} (h0 : x.f0 = y.f0) (h1 : x.f1.f0 = y.f1.f0) (h2 : x.f1.f1 = y.f1.f1) (h3 : x.f2 = y.f2) (h4 : x.f3.f0 = y.f3.f0) (h5 : x.f3.f1 = y.f3.f1) (h6 : x.f3.f2 = y.f3.f2) : x = y := by
  obtain ⟨a, ⟨b, c⟩, d, ⟨e, f, g⟩⟩ := x
  obtain ⟨a', ⟨b', c'⟩, d', ⟨e', f', g'⟩⟩ := y
  simp only at h0 h1 h2 h3 h4 h5 h6
  subst h0 h1 h2 h3 h4 h5 h6
  rfl
instance : DecidableEq CS := fun x y => decidable_of_iff (x.f0 = y.f0 ∧ x.f1.f0 = y.f1.f0 ∧ x.f1.f1 = y.f1.f1 ∧ x.f2 = y.f2 ∧ x.f3.f0 = y.f3.f0 ∧ x.f3.f1 = y.f3.f1 ∧ x.f3.f2 = y.f3.f2) ⟨fun ⟨a, b, c, d, e, f, g⟩ => CS_ext a b c d e f g, fun h => by subst h; simp⟩
theorem in8 {x : Int} (h : (Lit.int .u8 x).wf = true) : 0 ≤ x ∧ x ≤ 255 := by have := bounds_u8 h; omega
theorem mend_at (l : List CS) (hl : l.length ≤ 1000000) (j : Nat) : (mendC l)[j]? = l[j]?.map (fun x => if aloneN l j = true then blankS x else x) := by
  by_cases h : j < l.length
  · rw [mend_get l j h, alone_nat l j (by omega), rd_get l j h]; rfl
  · rw [List.getElem?_eq_none (by rw [mend_len]; omega), List.getElem?_eq_none (by omega)]; rfl
theorem hasW_mend (l : List CS) (hl : l.length ≤ 1000000) (j : Nat) (v : Int) (hv : v ≠ 1) : hasW (mendC l) j v = (hasW l j v && !aloneN l j) := by
  unfold hasW
  rw [mend_at l hl j]
  cases l[j]? with
  | none => rfl
  | some x =>
    cases h : aloneN l j
    · simp
    · simp [blankS, Ne.symm hv]
theorem hasW_one {l : List CS} {j : Nat} {u v : Int} (h : hasW l j u = true) (hne : u ≠ v) : hasW l j v = false := by
  unfold hasW at *
  cases hx : l[j]? with
  | none => rfl
  | some x => rw [hx] at h; simp at h ⊢; omega
theorem alone_mend (l : List CS) (hl : l.length ≤ 1000000) (i : Nat) : aloneN (mendC l) i = false := by
  unfold aloneN
  rw [hasW_mend l hl i 2 (by decide), hasW_mend l hl (i + 1) 0 (by decide), hasW_mend l hl i 0 (by decide), hasW_mend l hl (i - 1) 2 (by decide)]
  cases h2 : hasW l i 2
  · cases h0 : hasW l i 0
    · simp
    · cases ha : aloneN l i
      · have hp : (decide (0 < i) && hasW l (i - 1) 2) = true := by
          unfold aloneN at ha
          rw [h2, h0] at ha
          simpa using ha
        simp only [Bool.and_eq_true, decide_eq_true_eq] at hp
        have hq : aloneN l (i - 1) = false := by
          unfold aloneN
          rw [hp.2, show i - 1 + 1 = i by omega, h0, hasW_one hp.2 (by decide)]
          simp
        rw [hp.2, hq]
        simp [hp.1]
      · simp
  · have h0 := hasW_one h2 (v := 0) (by decide)
    cases ha : aloneN l i
    · have hp : hasW l (i + 1) 0 = true := by
        unfold aloneN at ha
        rw [h2, h0] at ha
        simpa using ha
      have hq : aloneN l (i + 1) = false := by
        unfold aloneN
        rw [hp, show i + 1 - 1 = i by omega, h2, hasW_one hp (by decide)]
        simp
      rw [hp, hq]
      simp [h0]
    · simp [h0]
/-- Nothing is alone: it is as it was. -/
theorem mend_id (l : List CS) (hl : l.length ≤ 1000000) (h : ∀ i, aloneN l i = false) : mendC l = l := by
  refine List.ext_getElem? fun j => ?_
  rw [mend_at l hl j, h j]
  simp
theorem mend_idem (l : List CS) (hl : l.length ≤ 1000000) : mendC (mendC l) = mendC l := mend_id _ (by rw [mend_len]; exact hl) (alone_mend l hl)
theorem alone_congr {l l' : List CS} (h : l.map (·.f2) = l'.map (·.f2)) (i : Nat) : aloneN l i = aloneN l' i := by
  have key : ∀ k v, hasW l k v = hasW l' k v := by
    intro k v
    have := congrArg (fun x : List Int => x[k]?) h
    simp only [List.getElem?_map] at this
    unfold hasW
    cases h1 : l[k]? <;> cases h2 : l'[k]? <;> rw [h1, h2] at this <;> simp at this ⊢
    rw [this]
  unfold aloneN
  rw [key, key, key, key]
theorem alone_none {l : List CS} {i : Nat} (h : l.length ≤ i) : aloneN l i = false := by
  unfold aloneN hasW
  rw [List.getElem?_eq_none (by omega)]
  simp
theorem alone_one {l : List CS} {i : Nat} {x : CS} (h : l[i]? = some x) (h1 : x.f2 = 1) : aloneN l i = false := by
  unfold aloneN hasW
  rw [h]
  simp [h1]
theorem Same_l (a : List CS) (hl : a.length ≤ 1000000) (b : List CS) (hb : b.length = a.length) : ∀ (d i k : Nat), i + d = a.length → d < k → cell_Cell_97.l0 k a b (a.length : Int) (i : Int) = some (decide (a.drop i = b.drop i)) := by
  intro d
  induction d with
  | zero =>
    intro i k hi hk
    obtain ⟨k, rfl⟩ := kp hk
    rw [cell_Cell_97.l0, if_neg (by omega), List.drop_eq_nil_of_le (by omega), List.drop_eq_nil_of_le (by omega)]
    simp
  | succ d ih =>
    intro i k hi hk
    obtain ⟨k, rfl⟩ := kp hk
    rw [cell_Cell_97.l0, if_pos (by omega), if_pos (by omega), if_pos (by omega), if_pos (by omega)]
    have ha : a.drop i = rd_T26 a (i : Int) :: a.drop (i + 1) := by
      rw [List.drop_eq_getElem_cons (show i < a.length by omega)]
      congr 1
      have := rd_get a i (by omega)
      rw [List.getElem?_eq_getElem (by omega)] at this
      exact Option.some.inj this
    have hb' : b.drop i = rd_T26 b (i : Int) :: b.drop (i + 1) := by
      rw [List.drop_eq_getElem_cons (show i < b.length by omega)]
      congr 1
      have := rd_get b i (by omega)
      rw [List.getElem?_eq_getElem (by omega)] at this
      exact Option.some.inj this
    rw [ha, hb']
    generalize rd_T26 a (i : Int) = x
    generalize rd_T26 b (i : Int) = y
    by_cases e : x = y
    · subst e
      rw [if_neg (by simp), w64 (by omega) (by omega), cast1, ih (i + 1) k (by omega) (by omega)]
      simp
    · rw [if_pos]
      · simp [e]
      · by_cases h0 : x.f0 = y.f0 <;> by_cases h1 : x.f1.f0 = y.f1.f0 <;> by_cases h2 : x.f1.f1 = y.f1.f1 <;> by_cases h3 : x.f2 = y.f2 <;> by_cases h4 : x.f3.f0 = y.f3.f0 <;> by_cases h5 : x.f3.f1 = y.f3.f1 <;> by_cases h6 : x.f3.f2 = y.f3.f2 <;> first | exact absurd (CS_ext h0 h1 h2 h3 h4 h5 h6) e | simp [*]
theorem Same_ok (a b : List CS) (hl : a.length ≤ 1000000) (k : Nat) (hk : a.length < k) : line_Same.f k a b = some (decide (a = b)) := by
  unfold line_Same.f cell_Cell_97.f
  by_cases h : (a.length : Int) = (b.length : Int)
  · rw [if_pos h]
    have := Same_l a hl b (by omega) a.length 0 k (by omega) hk
    simp only [List.drop_zero] at this
    rw [show ((0 : Int)) = ((0 : Nat) : Int) by rfl, this]
    rfl
  · rw [if_neg h]
    have : a ≠ b := fun e => h (by rw [e])
    simp [this]
def blankP (p0 p1 p2 : Int) : CS := ⟨32, ⟨0, 0⟩, 1, ⟨p0, p1, p2⟩⟩
theorem blanks_l (p0 p1 p2 : Int) (n : Nat) (hn : n ≤ 1000000) : ∀ (d i k : Nat) (o : List CS), i + d = n → o.length = i → d < k → line_blanks.l0 k o (n : Int) (i : Int) p0 p1 p2 = some (o ++ List.replicate d (blankP p0 p1 p2)) := by
  intro d
  induction d with
  | zero =>
    intro i k o hi ho hk
    obtain ⟨k, rfl⟩ := kp hk
    rw [line_blanks.l0, if_neg (by omega)]
    simp
  | succ d ih =>
    intro i k o hi ho hk
    obtain ⟨k, rfl⟩ := kp hk
    rw [line_blanks.l0, if_pos (by omega)]
    simp only [cell_Blank.f, Option.bind_some]
    rw [if_pos (by omega), w64 (by omega) (by omega), cast1, ih (i + 1) k _ (by omega) (by simp; omega) (by omega), List.replicate_succ]
    simp [blankP]
theorem blanks_ok (p0 p1 p2 n : Int) (hn : n ≤ 1000000) (k : Nat) (hk : n.toNat < k) : line_blanks.f k n p0 p1 p2 = some (List.replicate n.toNat (blankP p0 p1 p2)) := by
  unfold line_blanks.f
  by_cases h : 0 ≤ n
  · have := blanks_l p0 p1 p2 n.toNat (by omega) n.toNat 0 k [] (by omega) rfl hk
    rw [show ((n.toNat : Nat) : Int) = n by omega] at this
    simpa using this
  · obtain ⟨k, rfl⟩ := kp hk
    rw [line_blanks.l0, if_neg (by omega), show n.toNat = 0 by omega]
    rfl
/-- A number as a length. -/
def lenC (n : Int) : Nat := (mn (mx n 0) 512).toNat
theorem lenC_eq (n : Int) : mn (mx n 0) 512 = ((lenC n : Nat) : Int) ∧ lenC n ≤ 512 := by
  unfold lenC mn mx
  split <;> split <;> omega
/-- A line of another length. -/
def fitC (l : List CS) (n : Int) : List CS := mendC ((l ++ List.replicate (lenC n - l.length) (blankP 0 0 0)).take (lenC n))
theorem fit_pre_len (l : List CS) (n : Int) : ((l ++ List.replicate (lenC n - l.length) (blankP 0 0 0)).take (lenC n)).length = lenC n := by
  rw [List.length_take, List.length_append, List.length_replicate]; omega
theorem fit_len (l : List CS) (n : Int) : (fitC l n).length = lenC n := by
  unfold fitC
  rw [mend_len, fit_pre_len]
theorem Fit_ok (l : List CS) (n : Int) (hl : l.length ≤ 100000) (k : Nat) (hk : 600 < k) : line_Fit.f k l n = some (fitC l n) := by
  obtain ⟨h1, h2⟩ := lenC_eq n
  unfold line_Fit.f line_length.f fitC
  simp only [Option.bind_some]
  rw [h1]
  by_cases h : ((lenC n : Nat) : Int) ≤ (l.length : Int)
  · rw [if_pos h, if_pos (by omega), Int.toNat_natCast, show lenC n - l.length = 0 by omega, List.replicate_zero, List.append_nil]
    unfold line_Mend.f
    rw [if_pos (by rw [List.length_take]; omega)]
    rfl
  · rw [if_neg h]
    unfold cell_Cell_95.f
    rw [if_pos (by omega), w64 (by omega) (by omega), blanks_ok 0 0 0 _ (by omega) k (by omega), show ((lenC n : Int) - (l.length : Int)).toNat = lenC n - l.length by omega]
    simp only [Option.bind_some]
    rw [if_pos (by rw [List.length_replicate]; omega), List.take_of_length_le (by rw [List.length_append, List.length_replicate]; omega)]
    unfold line_Mend.f
    rw [if_pos (by rw [List.length_append, List.length_replicate]; omega)]
    rfl
theorem New_ok (n : Int) (k : Nat) (hk : 600 < k) : line_New.f k n = some (List.replicate (lenC n) (blankP 0 0 0)) := by
  obtain ⟨h1, h2⟩ := lenC_eq n
  unfold line_New.f line_length.f
  simp only [Option.bind_some]
  rw [h1, blanks_ok 0 0 0 _ (by omega) k (by omega)]
  rfl
def laidC (l : List CS) (i : Nat) (l2 : List CS) : List CS := l.take i ++ l2 ++ l.drop (i + l2.length)
theorem laidC_len (l : List CS) (i : Nat) (l2 : List CS) (h : i + l2.length ≤ l.length) : (laidC l i l2).length = l.length := by
  unfold laidC
  rw [List.length_append, List.length_append, List.length_take, List.length_drop]; omega
theorem laidC_get (l : List CS) (i : Nat) (l2 : List CS) (h : i + l2.length ≤ l.length) (j : Nat) : (laidC l i l2)[j]? = if j < i then l[j]? else if j < i + l2.length then l2[j - i]? else l[j]? := by
  unfold laidC
  have hl : (l.take i).length = i := by rw [List.length_take]; omega
  by_cases h1 : j < i
  · rw [if_pos h1, List.append_assoc, List.getElem?_append_left (by omega), List.getElem?_take, if_pos h1]
  · rw [if_neg h1, List.append_assoc, List.getElem?_append_right (by omega), hl]
    by_cases h2 : j < i + l2.length
    · rw [if_pos h2, List.getElem?_append_left (by omega)]
    · rw [if_neg h2, List.getElem?_append_right (by omega), List.getElem?_drop]
      congr 1; omega
theorem laid_ok (l : List CS) (i : Nat) (l2 : List CS) (h : i + l2.length ≤ l.length) (hl : l.length ≤ 1000000) : line_laid.f l (i : Int) l2 = some (mendC (laidC l i l2)) := by
  unfold line_laid.f laidC
  rw [if_pos ⟨by omega, by omega, by omega⟩, Int.toNat_natCast]
/-- A place, within a line. -/
def clamp (x : Int) (n : Nat) : Nat := (mn (mx x 0) (n : Int)).toNat
theorem clamp_eq (x : Int) (n : Nat) : mn (mx x 0) (n : Int) = ((clamp x n : Nat) : Int) ∧ clamp x n ≤ n := by
  unfold clamp mn mx
  split <;> split <;> omega
/-- A line with blanks from a place to another one. -/
def eraseC (l : List CS) (a b : Int) (p0 p1 p2 : Int) : List CS := mendC (laidC l (clamp a l.length) (List.replicate (clamp b l.length - clamp a l.length) (blankP p0 p1 p2)))
theorem Erase_ok (l : List CS) (a b p0 p1 p2 : Int) (hl : l.length ≤ 100000) (k : Nat) (hk : l.length < k) : line_Erase.f k l a b p0 p1 p2 = some (eraseC l a b p0 p1 p2) := by
  obtain ⟨h1, h2⟩ := clamp_eq a l.length
  obtain ⟨h3, h4⟩ := clamp_eq b l.length
  unfold line_Erase.f eraseC
  rw [h1, h3, w64 (by omega) (by omega)]
  have hm : mx 0 ((clamp b l.length : Int) - (clamp a l.length : Int)) = ((clamp b l.length - clamp a l.length : Nat) : Int) := by unfold mx; split <;> omega
  rw [hm, blanks_ok p0 p1 p2 _ (by omega) k (by omega), Int.toNat_natCast]
  simp only [Option.bind_some]
  rw [laid_ok l _ _ (by rw [List.length_replicate]; omega) (by omega)]
  rfl
theorem erase_len (l : List CS) (a b p0 p1 p2 : Int) : (eraseC l a b p0 p1 p2).length = l.length := by
  obtain ⟨h1, h2⟩ := clamp_eq a l.length
  obtain ⟨h3, h4⟩ := clamp_eq b l.length
  unfold eraseC
  rw [mend_len, laidC_len _ _ _ (by rw [List.length_replicate]; omega)]
def restS (x : CS) : CS := ⟨0, ⟨0, 0⟩, 0, x.f3⟩
/-- May a cell be put there? -/
def putOk (l : List CS) (i : Int) (c : CS) : Bool := decide (c.f2 ≠ 0) && rightS c && decide (0 ≤ i) && decide (i + c.f2 ≤ l.length)
def putC (l : List CS) (i : Int) (c : CS) : List CS := if putOk l i c = true then mendC (laidC l i.toNat (if c.f2 = 2 then [c, restS c] else [c])) else l
theorem right_le {c : CS} (h : rightS c = true) : c.f2 ≤ 2 := by
  unfold rightS rightC at h
  rw [Bool.and_eq_true] at h
  have h := h.2
  by_cases h0 : c.f2 = 0
  · omega
  · rw [if_neg h0] at h
    simp only [Bool.and_eq_true, decide_eq_true_eq] at h
    exact h.1
theorem Put_ok (l : List CS) (i : Int) (c : CS) (hi : -9223372036854775808 ≤ i ∧ i ≤ 9223372036854775807) (h8 : 0 ≤ c.f2 ∧ c.f2 ≤ 255) (hl : l.length ≤ 100000) (k : Nat) (hk : 0 < k) :
    line_Put.f k l i c.f0 c.f1.f0 c.f1.f1 c.f2 c.f3.f0 c.f3.f1 c.f3.f2 = some (putC l i c, putOk l i c) := by
  obtain ⟨k, rfl⟩ := kp hk
  have jno : ∀ b, b = true → putOk l i c = false → line_Put.j0 (k + 1) l i b c.f0 c.f1.f0 c.f1.f1 c.f2 c.f3.f0 c.f3.f1 c.f3.f2 = some (putC l i c, putOk l i c) := by
    intro b hb hp
    rw [line_Put.j0, if_pos hb]
    unfold cell_Cell_95.f putC
    rw [if_pos (by omega), hp]
    simp
  unfold line_Put.f
  by_cases h0 : c.f2 = 0
  · rw [if_pos h0]
    exact jno true rfl (by unfold putOk; simp [h0])
  · rw [if_neg h0]
    unfold cell_Right.f
    rw [if_pos h8]
    simp only [Option.bind_some]
    have hr : rightC c.f0 c.f1.f0 c.f1.f1 c.f2 c.f3.f0 c.f3.f1 c.f3.f2 = rightS c := rfl
    rw [hr]
    cases hR : rightS c
    · rw [if_neg (by simp)]
      exact jno true rfl (by unfold putOk; simp [hR])
    · rw [if_pos rfl]
      have h2 := right_le hR
      by_cases h1 : i < 0
      · rw [if_pos h1]
        exact jno true rfl (by unfold putOk; simp [show ¬ 0 ≤ i by omega])
      · rw [if_neg h1]
        by_cases h3 : i ≥ (l.length : Int)
        · rw [if_pos h3]
          exact jno true rfl (by unfold putOk; simp [show ¬ i + c.f2 ≤ (l.length : Int) by omega])
        · rw [if_neg h3, w64 (x := (l.length : Int) - i) (by omega) (by omega), w64 (x := c.f2) (by omega) (by omega)]
          by_cases h4 : (l.length : Int) - i < c.f2
          · exact jno _ (by simpa using h4) (by unfold putOk; simp [show ¬ i + c.f2 ≤ (l.length : Int) by omega])
          · have hp : putOk l i c = true := by unfold putOk; rw [hR]; simp [h0]; omega
            rw [decide_eq_false h4, line_Put.j0, if_neg (by simp), hp]
            unfold putC
            rw [if_pos hp]
            by_cases h5 : c.f2 = 2
            · rw [if_pos h5, if_pos h5]
              simp only [cell_Rest.f, Option.bind_some]
              have := laid_ok l i.toNat [c, restS c] (by simp; omega) (by omega)
              rw [show ((i.toNat : Nat) : Int) = i by omega] at this
              show (line_laid.f l i [c, restS c]).bind _ = _
              rw [this]
              rfl
            · rw [if_neg h5, if_neg h5]
              have := laid_ok l i.toNat [c] (by simp; omega) (by omega)
              rw [show ((i.toNat : Nat) : Int) = i by omega] at this
              show (line_laid.f l i [c]).bind _ = _
              rw [this]
              rfl
theorem rightFrom_iff (l : List CS) : ∀ d i, rightFrom l d i = true ↔ ∀ j, i ≤ j → j < i + d → okR l j = true
  | 0, i => by simp [rightFrom]; intro j h1 h2; omega
  | d + 1, i => by
    rw [rightFrom, Bool.and_eq_true, rightFrom_iff l d (i + 1)]
    constructor
    · rintro ⟨h, hr⟩ j h1 h2
      by_cases e : j = i
      · rw [e]; exact h
      · exact hr j (by omega) (by omega)
    · intro h
      exact ⟨h i (by omega) (by omega), fun j h1 h2 => h j (by omega) (by omega)⟩
theorem rightL_iff (l : List CS) : rightL l = true ↔ ∀ j, okR l j = true := by
  unfold rightL
  rw [rightFrom_iff]
  constructor
  · intro h j
    by_cases hj : j < l.length
    · exact h j (by omega) (by omega)
    · unfold okR; rw [List.getElem?_eq_none (by omega)]
  · intro h j _ _; exact h j
theorem Right_ok (l : List CS) (h8 : ∀ x ∈ l, 0 ≤ x.f2 ∧ x.f2 ≤ 255) (hl : l.length ≤ 1000000) (k : Nat) (hk : l.length < k) : line_Right.f l = some (rightL l) := by
  unfold line_Right.f
  rw [if_pos ⟨List.all_eq_true.2 (fun x hx => decide_eq_true (h8 x hx)), hl⟩]
theorem Cut_ok (l : List CS) : prolepsislaw06_Cut.f l = some (l.take 30) := by
  have hn := mn_len (n := l.length) (c := 30) (by omega)
  have ht : l.take (mn (l.length : Int) 30).toNat = l.take 30 := by
    by_cases h : 30 ≤ l.length
    · rw [show (mn (l.length : Int) 30).toNat = 30 by unfold mn; split <;> omega]
    · rw [List.take_of_length_le (by unfold mn; split <;> omega), List.take_of_length_le (by omega)]
  unfold prolepsislaw06_Cut.f
  simp only [Option.bind_some]
  rw [if_pos hn.1, if_pos hn.2.1, ht]
  simp only [Option.bind_some, List.nil_append, List.length_nil, Nat.zero_add]
  rw [if_pos (by rw [List.length_take]; omega)]
/-- A cell with a mark more. -/
def markS (x : CS) (r : Int) : CS := ⟨(markC x.f0 x.f1.f0 x.f1.f1 x.f2 x.f3.f0 x.f3.f1 x.f3.f2 r).1, ⟨(markC x.f0 x.f1.f0 x.f1.f1 x.f2 x.f3.f0 x.f3.f1 x.f3.f2 r).2.1, (markC x.f0 x.f1.f0 x.f1.f1 x.f2 x.f3.f0 x.f3.f1 x.f3.f2 r).2.2.1⟩, (markC x.f0 x.f1.f0 x.f1.f1 x.f2 x.f3.f0 x.f3.f1 x.f3.f2 r).2.2.2.1, ⟨(markC x.f0 x.f1.f0 x.f1.f1 x.f2 x.f3.f0 x.f3.f1 x.f3.f2 r).2.2.2.2.1, (markC x.f0 x.f1.f0 x.f1.f1 x.f2 x.f3.f0 x.f3.f1 x.f3.f2 r).2.2.2.2.2.1, (markC x.f0 x.f1.f0 x.f1.f1 x.f2 x.f3.f0 x.f3.f1 x.f3.f2 r).2.2.2.2.2.2.1⟩⟩
def markB (x : CS) (r : Int) : Bool := (markC x.f0 x.f1.f0 x.f1.f1 x.f2 x.f3.f0 x.f3.f1 x.f3.f2 r).2.2.2.2.2.2.2
/-- Where a mark goes. -/
def markAt (l : List CS) (i : Nat) : Nat := if hasW l i 0 && (decide (0 < i) && hasW l (i - 1) 2) then i - 1 else i
def markL (l : List CS) (i : Int) (r : Int) : List CS := if 0 ≤ i ∧ i < l.length then l.set (markAt l i.toNat) (markS (rd_T26 l ((markAt l i.toNat : Nat) : Int)) r) else l
def markOk (l : List CS) (i : Int) (r : Int) : Bool := decide (0 ≤ i ∧ i < l.length) && markB (rd_T26 l ((markAt l i.toNat : Nat) : Int)) r
theorem hasW_at' (l : List CS) (i : Nat) (v : Int) (h : i < l.length) : hasW l i v = decide ((rd_T26 l (i : Int)).f2 = v) := by
  unfold hasW
  rw [rd_get l i h]
theorem markAt_le (l : List CS) (i : Nat) : markAt l i ≤ i := by unfold markAt; split <;> omega
theorem markL_len (l : List CS) (i r : Int) : (markL l i r).length = l.length := by unfold markL; split <;> simp
theorem Mark_ok (l : List CS) (i r : Int) (hl : l.length ≤ 100000) (k : Nat) (hk : 0 < k) : line_Mark.f k l i r = some (markL l i r, markOk l i r) := by
  obtain ⟨k, rfl⟩ := kp hk
  unfold line_Mark.f cell_Cell_95.f
  rw [if_pos (by omega)]
  simp only [Option.bind_some]
  by_cases h0 : i < 0
  · rw [if_pos h0, line_Mark.j0, if_pos rfl]
    unfold markL markOk
    have hin : ¬ (0 ≤ i ∧ i < (l.length : Int)) := by omega
    rw [if_neg hin, decide_eq_false hin]; rfl
  · rw [if_neg h0]
    by_cases h1 : i ≥ (l.length : Int)
    · rw [decide_eq_true h1, line_Mark.j0, if_pos rfl]
      unfold markL markOk
      have hin : ¬ (0 ≤ i ∧ i < (l.length : Int)) := by omega
      rw [if_neg hin, decide_eq_false hin]; rfl
    · obtain ⟨n, rfl⟩ : ∃ n : Nat, i = n := ⟨i.toNat, by omega⟩
      have hn : n < l.length := by omega
      rw [decide_eq_false h1, line_Mark.j0, if_neg (by simp), if_pos (by omega), if_pos (by omega)]
      unfold markL markOk
      have hin : 0 ≤ (n : Int) ∧ (n : Int) < (l.length : Int) := by omega
      rw [if_pos hin, decide_eq_true hin, Bool.true_and, Int.toNat_natCast]
      have hA := hasW_at' l n 0 hn
      by_cases h2 : (rd_T26 l (n : Int)).f2 = 0
      · rw [if_pos h2]
        by_cases h3 : 0 < n
        · rw [if_pos (by omega), w64 (by omega) (by omega), show (n : Int) - 1 = ((n - 1 : Nat) : Int) by omega, if_pos (by omega), if_pos (by omega)]
          have hB := hasW_at' l (n - 1) 2 (by omega)
          by_cases h4 : (rd_T26 l ((n - 1 : Nat) : Int)).f2 = 2
          · rw [if_pos h4]
            unfold cell_Mark.f
            simp only [Option.bind_some]
            have hm : markAt l n = n - 1 := by unfold markAt; rw [hA, hB]; simp [h2, h4, h3]
            rw [if_pos (by omega), hm, Int.toNat_natCast]
            rfl
          · rw [if_neg h4]
            unfold cell_Mark.f
            simp only [Option.bind_some]
            have hm : markAt l n = n := by unfold markAt; rw [hA, hB]; simp [h4]
            rw [if_pos (by omega), hm]
            rfl
        · rw [if_neg (by omega)]
          unfold cell_Mark.f
          simp only [Option.bind_some]
          have hm : markAt l n = n := by unfold markAt; simp [h3]
          rw [if_pos (by omega), hm]
          rfl
      · rw [if_neg h2]
        unfold cell_Mark.f
        simp only [Option.bind_some]
        have hm : markAt l n = n := by unfold markAt; rw [hA]; simp [h2]
        rw [if_pos (by omega), hm]
        rfl
theorem right_iff (c0 c1 c2 c3 c4 c5 c6 : Int) : rightC c0 c1 c2 c3 c4 c5 c6 = true ↔ penR c4 c5 c6 = true ∧ ((c3 = 0 ∧ c0 = 0 ∧ c1 = 0 ∧ c2 = 0) ∨ (c3 ≠ 0 ∧ c3 ≤ 2 ∧ wOf c0 = c3 ∧ tailC c1 c2 = true)) := by
  unfold rightC
  by_cases h : c3 = 0
  · rw [if_pos h]; simp [h]
  · rw [if_neg h]; simp [h]
theorem tail_iff (c1 c2 : Int) : tailC c1 c2 = true ↔ (c1 = 0 ∧ c2 = 0) ∨ (c1 ≠ 0 ∧ wOf c1 = 0 ∧ (c2 = 0 ∨ wOf c2 = 0)) := by
  unfold tailC
  by_cases h : c1 = 0
  · rw [if_pos h]; simp [h]
  · rw [if_neg h]; simp [h]
theorem wOf_zero : wOf 0 = -1 := by decide
theorem wOf_blank : wOf 32 = 1 := by decide
theorem right_pen {x : CS} (h : rightS x = true) : penR x.f3.f0 x.f3.f1 x.f3.f2 = true := ((right_iff _ _ _ _ _ _ _).1 h).1
theorem right_blankP {p0 p1 p2 : Int} (h : penR p0 p1 p2 = true) : rightS (blankP p0 p1 p2) = true :=
  (right_iff _ _ _ _ _ _ _).2 ⟨h, .inr ⟨show (1 : Int) ≠ 0 by decide, show (1 : Int) ≤ 2 by decide, wOf_blank, show tailC 0 0 = true by decide⟩⟩
theorem right_blankS {x : CS} (h : rightS x = true) : rightS (blankS x) = true := right_blankP (right_pen h)
theorem right_rest {x : CS} (h : rightS x = true) : rightS (restS x) = true := (right_iff _ _ _ _ _ _ _).2 ⟨show penR x.f3.f0 x.f3.f1 x.f3.f2 = true from right_pen h, .inl ⟨rfl, rfl, rfl, rfl⟩⟩
theorem mark_right {x : CS} (h : rightS x = true) (h0 : x.f2 ≠ 0) (r : Int) : rightS (markS x r) = true ∧ (markS x r).f2 = x.f2 ∧ (markS x r).f3 = x.f3 := by
  have hx := (right_iff _ _ _ _ _ _ _).1 h
  obtain ⟨hp, ⟨h1, -⟩ | ⟨-, h2, h3, h4⟩⟩ := hx
  · exact absurd h1 h0
  · have ht := (tail_iff _ _).1 h4
    unfold markS markC
    by_cases c : wOf r = 0 ∧ (x.f2 = 1 ∨ x.f2 = 2)
    · have hr : r ≠ 0 := fun e => by rw [e, wOf_zero] at c; omega
      rw [if_pos c]
      by_cases d : x.f1.f0 = 0
      · rw [if_pos d]
        refine ⟨(right_iff _ _ _ _ _ _ _).2 ⟨hp, .inr ⟨h0, h2, h3, (tail_iff _ _).2 (.inr ⟨hr, c.1, ?_⟩)⟩⟩, rfl, rfl⟩
        rcases ht with ⟨-, e⟩ | ⟨e, -⟩
        · exact .inl e
        · exact absurd d e
      · rw [if_neg d]
        by_cases e : x.f1.f1 = 0
        · rw [if_pos e]
          refine ⟨(right_iff _ _ _ _ _ _ _).2 ⟨hp, .inr ⟨h0, h2, h3, (tail_iff _ _).2 (.inr ⟨d, ?_, .inr c.1⟩)⟩⟩, rfl, rfl⟩
          rcases ht with ⟨e, -⟩ | ⟨-, e, -⟩
          · exact absurd e d
          · exact e
        · rw [if_neg e]; exact ⟨h, rfl, rfl⟩
    · rw [if_neg c]; exact ⟨h, rfl, rfl⟩
theorem pen_refl (x y : CS) (h : x.f3 = y.f3) : penEq x y = true := by unfold penEq; rw [h]; simp
theorem hasW_mem {l : List CS} {i : Nat} {v : Int} (h : hasW l i v = true) : ∃ x, l[i]? = some x ∧ x.f2 = v := by
  unfold hasW at h
  cases hx : l[i]? with
  | none => rw [hx] at h; cases h
  | some x => rw [hx] at h; exact ⟨x, rfl, by simpa using h⟩
theorem hasW_of {l : List CS} {i : Nat} {x : CS} (h : l[i]? = some x) : hasW l i x.f2 = true := by unfold hasW; rw [h]; simp
/-- What is mended is right, if its cells are, and a wide one's halves are of one pen. -/
theorem right_mend (x : List CS) (hl : x.length ≤ 1000000) (h1 : ∀ y ∈ x, rightS y = true) (h2 : ∀ j a b, x[j]? = some a → x[j + 1]? = some b → a.f2 = 2 → b.f2 = 0 → penEq a b = true) : rightL (mendC x) = true := by
  rw [rightL_iff]
  intro j
  unfold okR
  rw [mend_at x hl j]
  cases hx : x[j]? with
  | none => rfl
  | some y =>
    have hy := h1 y (List.mem_of_getElem? hx)
    simp only [Option.map_some]
    rw [alone_mend x hl]
    cases ha : aloneN x j
    · rw [if_neg (by simp), hy]
      by_cases h0 : y.f2 = 0
      · have hw := hasW_of hx
        rw [h0] at hw
        have hp : 0 < j ∧ hasW x (j - 1) 2 = true := by
          unfold aloneN at ha
          rw [hw] at ha
          simp at ha
          exact ha.2
        obtain ⟨z, hz, hz2⟩ := hasW_mem hp.2
        have hza : aloneN x (j - 1) = false := by
          unfold aloneN
          rw [hp.2, show j - 1 + 1 = j by omega, hw, hasW_one hp.2 (by decide)]
          simp
        rw [mend_at x hl (j - 1), hz]
        simp only [Option.map_some]
        rw [hza, if_neg (by simp)]
        have := h2 (j - 1) z y hz (by rw [show j - 1 + 1 = j by omega]; exact hx) hz2 h0
        simp [h0, this]
      · simp [h0]
    · rw [if_pos rfl, right_blankS hy]
      simp [blankS]
theorem right_cell {l : List CS} (h : rightL l = true) {j : Nat} {x : CS} (hx : l[j]? = some x) : rightS x = true ∧ aloneN l j = false ∧ (x.f2 = 0 → ∃ y, l[j - 1]? = some y ∧ penEq y x = true ∧ 0 < j ∧ y.f2 = 2) := by
  have := (rightL_iff l).1 h j
  unfold okR at this
  rw [hx] at this
  simp only [Bool.and_eq_true, Bool.or_eq_true] at this
  obtain ⟨h1, h2, h3⟩ := this
  have ha : aloneN l j = false := by simpa using h2
  refine ⟨h1, ha, fun h0 => ?_⟩
  have hw := hasW_of hx
  rw [h0] at hw
  have hp : 0 < j ∧ hasW l (j - 1) 2 = true := by
    unfold aloneN at ha
    rw [hw] at ha
    simp at ha
    exact ha.2
  obtain ⟨z, hz, hz2⟩ := hasW_mem hp.2
  refine ⟨z, hz, ?_, hp.1, hz2⟩
  rcases h3 with h3 | h3
  · simp [h0] at h3
  · rw [hz] at h3; exact h3
theorem right_next {l : List CS} (h : rightL l = true) {j : Nat} {a b : CS} (ha : l[j]? = some a) (hb : l[j + 1]? = some b) (h0 : b.f2 = 0) : penEq a b = true := by
  obtain ⟨y, hy, hp, -⟩ := (right_cell h hb).2.2 h0
  rw [show j + 1 - 1 = j by omega, ha] at hy
  injection hy with hy
  rw [hy]; exact hp
theorem mend_right {l : List CS} (h : rightL l = true) (hl : l.length ≤ 1000000) : mendC l = l := mend_id l hl fun i => by
  cases hx : l[i]? with
  | none => exact alone_none (by rw [List.getElem?_eq_none_iff] at hx; exact hx)
  | some x => exact (right_cell h hx).2.1
theorem mem_laid {l : List CS} {i : Nat} {l2 : List CS} {y : CS} (h : y ∈ laidC l i l2) : y ∈ l ∨ y ∈ l2 := by
  unfold laidC at h
  simp only [List.mem_append] at h
  rcases h with (h | h) | h
  · exact .inl (List.mem_of_mem_take h)
  · exact .inr h
  · exact .inl (List.mem_of_mem_drop h)
theorem right_put {l : List CS} (h : rightL l = true) (hl : l.length ≤ 100000) (i : Int) (c : CS) (hc0 : 0 ≤ c.f2) : rightL (putC l i c) = true := by
  unfold putC
  split
  case isFalse => exact h
  case isTrue hp =>
    have hok := hp
    unfold putOk at hok
    simp only [Bool.and_eq_true, decide_eq_true_eq] at hok
    obtain ⟨⟨⟨h0, hr⟩, hi⟩, hn⟩ := hok
    obtain ⟨n, rfl⟩ : ∃ n : Nat, i = n := ⟨i.toNat, by omega⟩
    rw [Int.toNat_natCast]
    have hle := right_le hr
    have hlen : n + (if c.f2 = 2 then [c, restS c] else [c]).length ≤ l.length := by
      split
      · simp; omega
      · simp; omega
    refine right_mend _ (by rw [laidC_len _ _ _ hlen]; omega) (fun y hy => ?_) (fun j a b ha hb h2 hb0 => ?_)
    · rcases mem_laid hy with hy | hy
      · obtain ⟨j, hj⟩ := List.getElem?_of_mem hy
        exact (right_cell h hj).1
      · split at hy
        · simp at hy
          rcases hy with rfl | rfl
          · exact hr
          · exact right_rest hr
        · simp at hy; subst hy; exact hr
    · rw [laidC_get _ _ _ hlen] at ha hb
      by_cases h1 : j + 1 < n
      · rw [if_pos (by omega)] at ha; rw [if_pos h1] at hb
        exact right_next h ha hb hb0
      · rw [if_neg h1] at hb
        by_cases e2 : c.f2 = 2
        · rw [if_pos e2] at ha hb
          simp only [List.length_cons, List.length_nil] at ha hb
          by_cases h3 : j + 1 < n + (0 + 1 + 1)
          · rw [if_pos h3] at hb
            by_cases h4 : j + 1 = n
            · rw [h4, Nat.sub_self] at hb
              simp at hb
              subst hb; omega
            · obtain rfl : j = n := by omega
              rw [if_neg (by omega), if_pos (by omega), Nat.sub_self] at ha
              rw [show j + 1 - j = 1 by omega] at hb
              simp at ha hb
              subst ha hb
              exact pen_refl _ _ rfl
          · rw [if_neg h3] at hb
            by_cases h4 : j < n + (0 + 1 + 1)
            · obtain rfl : j = n + 1 := by omega
              rw [if_neg (by omega), if_pos (by omega), show n + 1 - n = 1 by omega] at ha
              simp at ha
              subst ha
              simp [restS] at h2
            · rw [if_neg (by omega), if_neg h4] at ha
              exact right_next h ha hb hb0
        · rw [if_neg e2] at ha hb
          simp only [List.length_cons, List.length_nil] at ha hb
          by_cases h3 : j + 1 < n + (0 + 1)
          · rw [if_pos h3, show j + 1 - n = 0 by omega] at hb
            simp at hb
            subst hb; exact absurd hb0 h0
          · rw [if_neg h3] at hb
            by_cases h4 : j < n + (0 + 1)
            · obtain rfl : j = n := by omega
              rw [if_neg (by omega), if_pos h4, Nat.sub_self] at ha
              simp at ha
              subst ha; exact absurd h2 e2
            · rw [if_neg (by omega), if_neg h4] at ha
              exact right_next h ha hb hb0
theorem right_erase {l : List CS} (h : rightL l = true) (hl : l.length ≤ 100000) (a b p0 p1 p2 : Int) (hp : penR p0 p1 p2 = true) : rightL (eraseC l a b p0 p1 p2) = true := by
  obtain ⟨h1, h2⟩ := clamp_eq a l.length
  obtain ⟨h3, h4⟩ := clamp_eq b l.length
  have hr : (List.replicate (clamp b l.length - clamp a l.length) (blankP p0 p1 p2)).length = clamp b l.length - clamp a l.length := List.length_replicate
  unfold eraseC
  refine right_mend _ (by rw [laidC_len _ _ _ (by rw [hr]; omega)]; omega) (fun y hy => ?_) (fun j x y hx hy hx2 hy0 => ?_)
  · rcases mem_laid hy with hy | hy
    · obtain ⟨j, hj⟩ := List.getElem?_of_mem hy
      exact (right_cell h hj).1
    · rw [List.mem_replicate] at hy
      rw [hy.2]; exact right_blankP hp
  · rw [laidC_get _ _ _ (by rw [hr]; omega), hr] at hx hy
    have hb : ∀ (q : Nat) (z : CS), (List.replicate (clamp b l.length - clamp a l.length) (blankP p0 p1 p2))[q]? = some z → z.f2 = 1 := by
      intro q z hz
      have := List.mem_of_getElem? hz
      rw [List.mem_replicate] at this
      rw [this.2]; rfl
    have hx' : l[j]? = some x := by
      split at hx
      · exact hx
      · split at hx
        · have := hb _ _ hx; omega
        · exact hx
    have hy' : l[j + 1]? = some y := by
      split at hy
      · exact hy
      · split at hy
        · have := hb _ _ hy; omega
        · exact hy
    exact right_next h hx' hy' hy0
theorem right_fit {l : List CS} (h : rightL l = true) (n : Int) : rightL (fitC l n) = true := by
  have hn := (lenC_eq n).2
  have hp := fit_pre_len l n
  unfold fitC
  have hpen : penR 0 0 0 = true := by decide
  have hg : ∀ (j : Nat) (z : CS), ((l ++ List.replicate (lenC n - l.length) (blankP 0 0 0)).take (lenC n))[j]? = some z → l[j]? = some z ∨ z = blankP 0 0 0 := by
    intro j z hz
    rw [List.getElem?_take] at hz
    split at hz
    · rw [List.getElem?_append] at hz
      split at hz
      · exact .inl hz
      · have := List.mem_of_getElem? hz
        rw [List.mem_replicate] at this
        exact .inr this.2
    · cases hz
  refine right_mend _ (by omega) (fun y hy => ?_) (fun j x y hx hy hx2 hy0 => ?_)
  · obtain ⟨j, hj⟩ := List.getElem?_of_mem hy
    rcases hg j y hj with q | q
    · exact (right_cell h q).1
    · rw [q]; exact right_blankP hpen
  · rcases hg _ _ hx with q | q
    · rcases hg _ _ hy with r | r
      · exact right_next h q r hy0
      · rw [r] at hy0; simp [blankP] at hy0
    · rw [q] at hx2; simp [blankP] at hx2
theorem right_mark {l : List CS} (h : rightL l = true) (hl : l.length ≤ 100000) (i r : Int) : rightL (markL l i r) = true := by
  unfold markL
  split
  case isFalse => exact h
  case isTrue hi =>
    obtain ⟨n, rfl⟩ : ∃ n : Nat, i = n := ⟨i.toNat, by omega⟩
    rw [Int.toNat_natCast]
    have hle := markAt_le l n
    have hg := rd_get l (markAt l n) (by omega)
    obtain ⟨hx, -, hx0⟩ := right_cell h hg
    have h0 : (rd_T26 l ((markAt l n : Nat) : Int)).f2 ≠ 0 := by
      intro e
      obtain ⟨y, hy, -, hpos, hy2⟩ := hx0 e
      have hw := hasW_of hg
      rw [e] at hw
      have hw2 := hasW_of hy
      rw [hy2] at hw2
      by_cases q : markAt l n = n
      · rw [q] at hw hw2 hpos
        have : markAt l n = n - 1 := by unfold markAt; rw [hw, hw2]; simp [hpos]
        omega
      · have hm : markAt l n = n - 1 ∧ hasW l (n - 1) 2 = true := by
          unfold markAt at q ⊢
          split at q
          · rename_i hc
            simp at hc
            rw [if_pos (by simp [hc])]
            exact ⟨rfl, hc.2.2⟩
          · exact absurd rfl q
        rw [hm.1] at hw
        rw [hasW_one hm.2 (by decide)] at hw
        cases hw
    generalize markAt l n = m at *
    obtain ⟨hr, hw, hf⟩ := mark_right hx h0 r
    generalize rd_T26 l (m : Int) = x at *
    have hwid : (l.set m (markS x r)).map (·.f2) = l.map (·.f2) := by
      refine List.ext_getElem? fun q => ?_
      rw [List.getElem?_map, List.getElem?_map, List.getElem?_set]
      split
      · rename_i e; subst e
        rw [if_pos (by omega), hg]; simp [hw]
      · rfl
    have hset : ∀ (q : Nat) (z : CS), (l.set m (markS x r))[q]? = some z → ∃ y : CS, l[q]? = some y ∧ z.f2 = y.f2 ∧ z.f3 = y.f3 ∧ rightS z = true := by
      intro q z hz
      rw [List.getElem?_set] at hz
      split at hz
      · rename_i e; subst e
        rw [if_pos (by omega)] at hz
        injection hz with hz
        subst hz
        exact ⟨x, hg, hw, hf, hr⟩
      · exact ⟨z, hz, rfl, rfl, (right_cell h hz).1⟩
    rw [rightL_iff]
    intro j
    unfold okR
    cases hz : (l.set m (markS x r))[j]? with
    | none => rfl
    | some z =>
      obtain ⟨y, hy, e2, e3, hrz⟩ := hset j z hz
      obtain ⟨-, ha, h00⟩ := right_cell h hy
      simp only []
      rw [hrz, alone_congr hwid, ha]
      by_cases q : z.f2 = 0
      · obtain ⟨u, hu, hp, -⟩ := h00 (by omega)
        have : ∃ v, (l.set m (markS x r))[j - 1]? = some v := by
          rw [List.getElem?_set]
          split
          · rw [if_pos (by omega)]; exact ⟨_, rfl⟩
          · exact ⟨u, hu⟩
        obtain ⟨v, hv⟩ := this
        obtain ⟨u', hu', -, e3', -⟩ := hset _ v hv
        rw [hu] at hu'
        injection hu' with hu'
        subst hu'
        rw [hv]
        have : penEq v z = true := by unfold penEq at hp ⊢; rw [e3', e3]; exact hp
        simp [q, this]
      · simp [q]
def In8 (l : List CS) : Prop := ∀ x ∈ l, 0 ≤ x.f2 ∧ x.f2 ≤ 255
theorem in8_mend {l : List CS} (h : In8 l) : In8 (mendC l) := by
  intro y hy
  unfold mendC at hy
  obtain ⟨j, hj, rfl⟩ := List.mem_mapIdx.1 hy
  split
  · simp [blankS]
  · exact h _ (List.getElem_mem _)
theorem in8_laid {l l2 : List CS} (h : In8 l) (h2 : In8 l2) (i : Nat) : In8 (laidC l i l2) := fun y hy => (mem_laid hy).elim (h y) (h2 y)
theorem in8_blanks (n : Nat) (p0 p1 p2 : Int) : In8 (List.replicate n (blankP p0 p1 p2)) := by
  intro y hy
  rw [List.mem_replicate] at hy
  rw [hy.2]; simp [blankP]
theorem in8_put {l : List CS} (h : In8 l) (i : Int) {c : CS} (hc : 0 ≤ c.f2 ∧ c.f2 ≤ 255) : In8 (putC l i c) := by
  unfold putC
  split
  · refine in8_mend (in8_laid h ?_ _)
    split
    · intro y hy; simp at hy; rcases hy with rfl | rfl
      · exact hc
      · simp [restS]
    · intro y hy; simp at hy; subst hy; exact hc
  · exact h
theorem in8_erase {l : List CS} (h : In8 l) (a b p0 p1 p2 : Int) : In8 (eraseC l a b p0 p1 p2) := in8_mend (in8_laid h (in8_blanks _ _ _ _) _)
theorem in8_fit {l : List CS} (h : In8 l) (n : Int) : In8 (fitC l n) := by
  refine in8_mend fun y hy => ?_
  have := List.mem_of_mem_take hy
  rw [List.mem_append] at this
  rcases this with q | q
  · exact h y q
  · exact in8_blanks _ _ _ _ y q
theorem markS_f2 (x : CS) (r : Int) : (markS x r).f2 = x.f2 := by
  unfold markS markC
  split
  · split
    · rfl
    · split <;> rfl
  · rfl
theorem in8_mark {l : List CS} (h : In8 l) (i r : Int) : In8 (markL l i r) := by
  unfold markL
  split
  · rename_i hi
    intro y hy
    have hle := markAt_le l i.toNat
    rcases List.mem_or_eq_of_mem_set hy with q | q
    · exact h y q
    · rw [q, markS_f2]
      exact h _ (List.mem_of_getElem? (rd_get l _ (by omega)))
  · exact h
theorem put_len (l : List CS) (i : Int) (c : CS) (hc0 : 0 ≤ c.f2) : (putC l i c).length = l.length := by
  unfold putC
  split
  · rename_i hp
    unfold putOk at hp
    simp only [Bool.and_eq_true, decide_eq_true_eq] at hp
    have := right_le hp.1.1.2
    rw [mend_len, laidC_len]
    split
    · simp; omega
    · simp; omega
  · rfl
theorem pR (a b c : Int) : pen_Right.f a b c = some (penR a b c) := by
  unfold pen_Right.f penR
  by_cases h1 : a < 32 <;> by_cases h2 : b < 17 <;> simp [h1, h2]
theorem LineStays_true (l0 : List CS) (c : CS) (i n p0 p1 p2 r : Int) (hc : 0 ≤ c.f2 ∧ c.f2 ≤ 255) (hi : -9223372036854775808 ≤ i ∧ i ≤ 9223372036854775807) (h8 : ∀ x ∈ l0, 0 ≤ x.f2 ∧ x.f2 ≤ 255) :
    prolepsislaw06_LineStays.f 1000 l0 c.f0 c.f1.f0 c.f1.f1 c.f2 c.f3.f0 c.f3.f1 c.f3.f2 i n p0 p1 p2 r = some true := by
  unfold prolepsislaw06_LineStays.f
  rw [Cut_ok l0]
  simp only [Option.bind_some]
  have hL : (l0.take 30).length ≤ 30 := by rw [List.length_take]; omega
  have h8L : ∀ x ∈ l0.take 30, 0 ≤ x.f2 ∧ x.f2 ≤ 255 := fun x hx => h8 x (List.mem_of_mem_take hx)
  generalize l0.take 30 = l at hL h8L
  have j0t : ∀ k, 1 ≤ k → prolepsislaw06_LineStays.j0 k l i n r true c.f0 c.f1.f0 c.f1.f1 c.f2 c.f3.f0 c.f3.f1 c.f3.f2 p0 p1 p2 = some true := by
    intro k hk
    obtain ⟨k, rfl⟩ := kp (show 0 < k by omega)
    rw [prolepsislaw06_LineStays.j0, if_pos rfl, show prolepsislaw06_known.f = some true from rfl]
    rfl
  rw [Right_ok l h8L (by omega) 1000 (by omega)]
  simp only [Option.bind_some]
  cases hR : rightL l
  · rw [if_neg (by simp)]; exact j0t 1000 (by omega)
  · rw [if_pos rfl, pR]
    simp only [Option.bind_some]
    cases hP : penR p0 p1 p2
    · exact j0t 1000 (by omega)
    · have hpl := put_len l i c hc.1
      have hel := erase_len l i n p0 p1 p2
      have hml := markL_len l i r
      have hfl := fit_len l n
      have hn := (lenC_eq n).2
      rw [show (!true) = false from rfl, prolepsislaw06_LineStays.j0, if_neg (by simp), Put_ok l i c hi hc (by omega) 999 (by omega), Erase_ok l i n p0 p1 p2 (by omega) 999 (by omega), Mark_ok l i r (by omega) 999 (by omega), Fit_ok l n (by omega) 999 (by omega), show prolepsislaw06_known.f = some true from rfl, New_ok n 999 (by omega)]
      simp only [Option.bind_some, if_true]
      rw [Right_ok _ (in8_put h8L i hc) (by omega) 999 (by omega), Right_ok _ (in8_erase h8L i n p0 p1 p2) (by omega) 999 (by omega), Right_ok _ (in8_mark h8L i r) (by omega) 999 (by omega), Right_ok _ (in8_fit h8L n) (by omega) 999 (by omega),
        right_put hR (by omega) i c hc.1, right_erase hR (by omega) i n p0 p1 p2 hP, right_mark hR (by omega) i r, right_fit hR n]
      simp only [Option.bind_some, if_true]
      rw [if_pos (by omega), if_pos (by omega), if_pos (by omega), if_pos (by rw [List.length_replicate]; omega)]
      unfold line_Mend.f
      rw [if_pos (by omega), mend_right hR (by omega)]
      simp only [Option.bind_some]
      rw [Same_ok _ _ (by omega) 999 (by omega)]
      simp
end Go.Proofs.Ytblcmcdifgclcaa.Pure
