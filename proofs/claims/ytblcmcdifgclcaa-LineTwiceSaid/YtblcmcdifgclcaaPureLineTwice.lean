/- LineTwice, the plain part. No condition but that the numbers are of their kinds. -/
import Derived.Test.YtblcmcdifgclcaaPLineTwicex7
import Derived.OpenShut
namespace Go.Proofs.Ytblcmcdifgclcaa.Pure
open Go.RowKit Go.Proofs.Ytblcmcdifgclcaa.PLineTwice Go.Proofs.YtblcmcdifgclcaaW.PrintWords Go.Proofs.YtblcmcdifgclcaaW.PrintLast Go.Proofs.YtblcmcdifgclcaaW.PrintMore
set_option linter.unusedVariables false
set_option linter.unusedSimpArgs false
theorem wOf_bounds (r : Int) : -1 ≤ wOf r ∧ wOf r ≤ 2 := by unfold wOf; split <;> (try split) <;> (try split) <;> omega
theorem w64 {x : Int} (h0 : -9223372036854775808 ≤ x) (h1 : x < 9223372036854775808) : wrap64 x = x := by unfold wrap64; omega
theorem kp {d k : Nat} (h : d < k) : ∃ m, k = m + 1 := ⟨k - 1, by omega⟩
theorem cast1 (i : Nat) : ((i : Int) + 1) = ((i + 1 : Nat) : Int) := by omega
abbrev CS := S26
abbrev PS := S24
theorem CS_ext {x y : CS} (h0 : x.f0 = y.f0) (h1 : x.f1.f0 = y.f1.f0) (h2 : x.f1.f1 = y.f1.f1) (h3 : x.f2 = y.f2) (h4 : x.f3.f0 = y.f3.f0) (h5 : x.f3.f1 = y.f3.f1) (h6 : x.f3.f2 = y.f3.f2) : x = y := by
  obtain ⟨a, ⟨b, c⟩, d, ⟨e, f, g⟩⟩ := x
  obtain ⟨a', ⟨b', c'⟩, d', ⟨e', f', g'⟩⟩ := y
  simp only at h0 h1 h2 h3 h4 h5 h6
  subst h0 h1 h2 h3 h4 h5 h6
  rfl
instance : DecidableEq CS := fun x y => decidable_of_iff (x.f0 = y.f0 ∧ x.f1.f0 = y.f1.f0 ∧ x.f1.f1 = y.f1.f1 ∧ x.f2 = y.f2 ∧ x.f3.f0 = y.f3.f0 ∧ x.f3.f1 = y.f3.f1 ∧ x.f3.f2 = y.f3.f2) ⟨fun ⟨a, b, c, d, e, f, g⟩ => CS_ext a b c d e f g, fun h => by subst h; simp⟩
theorem mn_len {n : Nat} {c : Int} (hc : 0 ≤ c) : 0 ≤ mn (n : Int) c ∧ mn (n : Int) c ≤ n ∧ mn (n : Int) c ≤ c := by unfold mn; split <;> omega
theorem in32 {x : Int} (h : (Lit.int .i32 x).wf = true) : -2147483648 ≤ x ∧ x ≤ 2147483647 := by have := bounds_i32 h; omega
theorem in8 {x : Int} (h : (Lit.int .u8 x).wf = true) : 0 ≤ x ∧ x ≤ 255 := by have := bounds_u8 h; omega
/-- Is a cell of that width there? -/
def hasW (l : List CS) (k : Nat) (v : Int) : Bool := match l[k]? with | some x => decide (x.f2 = v) | none => false
def aloneN (l : List CS) (i : Nat) : Bool := (hasW l i 2 && !hasW l (i + 1) 0) || (hasW l i 0 && !(decide (0 < i) && hasW l (i - 1) 2))
theorem isW_nat (l : List CS) (k : Nat) (v : Int) : isW l (k : Int) v = hasW l k v := by
  unfold isW hasW
  by_cases h : k < l.length
  · rw [rd_get l k h]
    simp [h]
  · rw [List.getElem?_eq_none (by omega)]
    simp [h]
theorem isW_neg (l : List CS) (k v : Int) (h : k < 0) : isW l k v = false := by unfold isW; simp [show ¬ 0 ≤ k by omega]
theorem alone_nat (l : List CS) (i : Nat) (h : i ≤ 1000000) : aloneC l (i : Int) = aloneN l i := by
  unfold aloneC aloneN
  rw [w64 (x := (i : Int) + 1) (by omega) (by omega), w64 (x := (i : Int) - 1) (by omega) (by omega), cast1, isW_nat, isW_nat, isW_nat]
  by_cases h0 : 0 < i
  · rw [show (i : Int) - 1 = ((i - 1 : Nat) : Int) by omega, isW_nat]; simp [h0]
  · rw [isW_neg l _ 2 (by omega)]; simp [h0]
theorem mend_at (l : List CS) (hl : l.length ≤ 1000000) (j : Nat) : (mendC l)[j]? = l[j]?.map (fun x => if aloneN l j = true then blankS x else x) := by
  by_cases h : j < l.length
  · rw [mend_get l j h, alone_nat l j (by omega), rd_get l j h]; rfl
  · rw [List.getElem?_eq_none (by rw [mend_len]; omega), List.getElem?_eq_none (by omega)]; rfl
theorem hasW_mend (l : List CS) (hl : l.length ≤ 1000000) (j : Nat) (v : Int) (hv : v ≠ 1) : hasW (mendC l) j v = (hasW l j v && !aloneN l j) := by
  unfold hasW
  rw [mend_at l hl j]
  cases l[j]? with
  | none => rfl
  | some x =>
    cases h : aloneN l j
    · simp
    · simp [blankS, Ne.symm hv]
theorem hasW_one {l : List CS} {j : Nat} {u v : Int} (h : hasW l j u = true) (hne : u ≠ v) : hasW l j v = false := by
  unfold hasW at *
  cases hx : l[j]? with
  | none => rfl
  | some x => rw [hx] at h; simp at h ⊢; omega
theorem alone_mend (l : List CS) (hl : l.length ≤ 1000000) (i : Nat) : aloneN (mendC l) i = false := by
  unfold aloneN
  rw [hasW_mend l hl i 2 (by decide), hasW_mend l hl (i + 1) 0 (by decide), hasW_mend l hl i 0 (by decide), hasW_mend l hl (i - 1) 2 (by decide)]
  cases h2 : hasW l i 2
  · cases h0 : hasW l i 0
    · simp
    · cases ha : aloneN l i
      · have hp : (decide (0 < i) && hasW l (i - 1) 2) = true := by
          unfold aloneN at ha
          rw [h2, h0] at ha
          simpa using ha
        simp only [Bool.and_eq_true, decide_eq_true_eq] at hp
        have hq : aloneN l (i - 1) = false := by
          unfold aloneN
          rw [hp.2, show i - 1 + 1 = i by omega, h0, hasW_one hp.2 (by decide)]
          simp
        rw [hp.2, hq]
        simp [hp.1]
      · simp
  · have h0 := hasW_one h2 (v := 0) (by decide)
    cases ha : aloneN l i
    · have hp : hasW l (i + 1) 0 = true := by
        unfold aloneN at ha
        rw [h2, h0] at ha
        simpa using ha
      have hq : aloneN l (i + 1) = false := by
        unfold aloneN
        rw [hp, show i + 1 - 1 = i by omega, h2, hasW_one hp (by decide)]
        simp
      rw [hp, hq]
      simp [h0]
    · simp [h0]
/-- Nothing is alone: it is as it was. -/
theorem mend_id (l : List CS) (hl : l.length ≤ 1000000) (h : ∀ i, aloneN l i = false) : mendC l = l := by
  refine List.ext_getElem? fun j => ?_
  rw [mend_at l hl j, h j]
  simp
theorem mend_idem (l : List CS) (hl : l.length ≤ 1000000) : mendC (mendC l) = mendC l := mend_id _ (by rw [mend_len]; exact hl) (alone_mend l hl)
theorem alone_congr {l l' : List CS} (h : l.map (·.f2) = l'.map (·.f2)) (i : Nat) : aloneN l i = aloneN l' i := by
  have key : ∀ k v, hasW l k v = hasW l' k v := by
    intro k v
    have := congrArg (fun x : List Int => x[k]?) h
    simp only [List.getElem?_map] at this
    unfold hasW
    cases h1 : l[k]? <;> cases h2 : l'[k]? <;> rw [h1, h2] at this <;> simp at this ⊢
    rw [this]
  unfold aloneN
  rw [key, key, key, key]
theorem alone_none {l : List CS} {i : Nat} (h : l.length ≤ i) : aloneN l i = false := by
  unfold aloneN hasW
  rw [List.getElem?_eq_none (by omega)]
  simp
theorem alone_one {l : List CS} {i : Nat} {x : CS} (h : l[i]? = some x) (h1 : x.f2 = 1) : aloneN l i = false := by
  unfold aloneN hasW
  rw [h]
  simp [h1]
theorem Same_l (a : List CS) (hl : a.length ≤ 1000000) (b : List CS) (hb : b.length = a.length) : ∀ (d i k : Nat), i + d = a.length → d < k → cell_Cell_97.l0 k a b (a.length : Int) (i : Int) = some (decide (a.drop i = b.drop i)) := by
  intro d
  induction d with
  | zero =>
    intro i k hi hk
    obtain ⟨k, rfl⟩ := kp hk
    rw [cell_Cell_97.l0, if_neg (by omega), List.drop_eq_nil_of_le (by omega), List.drop_eq_nil_of_le (by omega)]
    simp
  | succ d ih =>
    intro i k hi hk
    obtain ⟨k, rfl⟩ := kp hk
    rw [cell_Cell_97.l0, if_pos (by omega), if_pos (by omega), if_pos (by omega), if_pos (by omega)]
    have ha : a.drop i = rd_T26 a (i : Int) :: a.drop (i + 1) := by
      rw [List.drop_eq_getElem_cons (show i < a.length by omega)]
      congr 1
      have := rd_get a i (by omega)
      rw [List.getElem?_eq_getElem (by omega)] at this
      exact Option.some.inj this
    have hb' : b.drop i = rd_T26 b (i : Int) :: b.drop (i + 1) := by
      rw [List.drop_eq_getElem_cons (show i < b.length by omega)]
      congr 1
      have := rd_get b i (by omega)
      rw [List.getElem?_eq_getElem (by omega)] at this
      exact Option.some.inj this
    rw [ha, hb']
    generalize rd_T26 a (i : Int) = x
    generalize rd_T26 b (i : Int) = y
    by_cases e : x = y
    · subst e
      rw [if_neg (by simp), w64 (by omega) (by omega), cast1, ih (i + 1) k (by omega) (by omega)]
      simp
    · rw [if_pos]
      · simp [e]
      · by_cases h0 : x.f0 = y.f0 <;> by_cases h1 : x.f1.f0 = y.f1.f0 <;> by_cases h2 : x.f1.f1 = y.f1.f1 <;> by_cases h3 : x.f2 = y.f2 <;> by_cases h4 : x.f3.f0 = y.f3.f0 <;> by_cases h5 : x.f3.f1 = y.f3.f1 <;> by_cases h6 : x.f3.f2 = y.f3.f2 <;> first | exact absurd (CS_ext h0 h1 h2 h3 h4 h5 h6) e | simp [*]
theorem Same_ok (a b : List CS) (hl : a.length ≤ 1000000) (k : Nat) (hk : a.length < k) : line_Same.f k a b = some (decide (a = b)) := by
  unfold line_Same.f cell_Cell_97.f
  by_cases h : (a.length : Int) = (b.length : Int)
  · rw [if_pos h]
    have := Same_l a hl b (by omega) a.length 0 k (by omega) hk
    simp only [List.drop_zero] at this
    rw [show ((0 : Int)) = ((0 : Nat) : Int) by rfl, this]
    rfl
  · rw [if_neg h]
    have : a ≠ b := fun e => h (by rw [e])
    simp [this]
def blankP (p0 p1 p2 : Int) : CS := ⟨32, ⟨0, 0⟩, 1, ⟨p0, p1, p2⟩⟩
theorem blanks_l (p0 p1 p2 : Int) (n : Nat) (hn : n ≤ 1000000) : ∀ (d i k : Nat) (o : List CS), i + d = n → o.length = i → d < k → line_blanks.l0 k o (n : Int) (i : Int) p0 p1 p2 = some (o ++ List.replicate d (blankP p0 p1 p2)) := by
  intro d
  induction d with
  | zero =>
    intro i k o hi ho hk
    obtain ⟨k, rfl⟩ := kp hk
    rw [line_blanks.l0, if_neg (by omega)]
    simp
  | succ d ih =>
    intro i k o hi ho hk
    obtain ⟨k, rfl⟩ := kp hk
    rw [line_blanks.l0, if_pos (by omega)]
    simp only [cell_Blank.f, Option.bind_some]
    rw [if_pos (by omega), w64 (by omega) (by omega), cast1, ih (i + 1) k _ (by omega) (by simp; omega) (by omega), List.replicate_succ]
    simp [blankP]
theorem blanks_ok (p0 p1 p2 n : Int) (hn : n ≤ 1000000) (k : Nat) (hk : n.toNat < k) : line_blanks.f k n p0 p1 p2 = some (List.replicate n.toNat (blankP p0 p1 p2)) := by
  unfold line_blanks.f
  by_cases h : 0 ≤ n
  · have := blanks_l p0 p1 p2 n.toNat (by omega) n.toNat 0 k [] (by omega) rfl hk
    rw [show ((n.toNat : Nat) : Int) = n by omega] at this
    simpa using this
  · obtain ⟨k, rfl⟩ := kp hk
    rw [line_blanks.l0, if_neg (by omega), show n.toNat = 0 by omega]
    rfl
/-- A number as a length. -/
def lenC (n : Int) : Nat := (mn (mx n 0) 512).toNat
theorem lenC_eq (n : Int) : mn (mx n 0) 512 = ((lenC n : Nat) : Int) ∧ lenC n ≤ 512 := by
  unfold lenC mn mx
  split <;> split <;> omega
/-- A line of another length. -/
def fitC (l : List CS) (n : Int) : List CS := mendC ((l ++ List.replicate (lenC n - l.length) (blankP 0 0 0)).take (lenC n))
theorem fit_pre_len (l : List CS) (n : Int) : ((l ++ List.replicate (lenC n - l.length) (blankP 0 0 0)).take (lenC n)).length = lenC n := by
  rw [List.length_take, List.length_append, List.length_replicate]; omega
theorem fit_len (l : List CS) (n : Int) : (fitC l n).length = lenC n := by
  unfold fitC
  rw [mend_len, fit_pre_len]
theorem Fit_ok (l : List CS) (n : Int) (hl : l.length ≤ 100000) (k : Nat) (hk : 600 < k) : line_Fit.f k l n = some (fitC l n) := by
  obtain ⟨h1, h2⟩ := lenC_eq n
  unfold line_Fit.f line_length.f fitC
  simp only [Option.bind_some]
  rw [h1]
  by_cases h : ((lenC n : Nat) : Int) ≤ (l.length : Int)
  · rw [if_pos h, if_pos (by omega), Int.toNat_natCast, show lenC n - l.length = 0 by omega, List.replicate_zero, List.append_nil]
    unfold line_Mend.f
    rw [if_pos (by rw [List.length_take]; omega)]
    rfl
  · rw [if_neg h]
    unfold cell_Cell_95.f
    rw [if_pos (by omega), w64 (by omega) (by omega), blanks_ok 0 0 0 _ (by omega) k (by omega), show ((lenC n : Int) - (l.length : Int)).toNat = lenC n - l.length by omega]
    simp only [Option.bind_some]
    rw [if_pos (by rw [List.length_replicate]; omega), List.take_of_length_le (by rw [List.length_append, List.length_replicate]; omega)]
    unfold line_Mend.f
    rw [if_pos (by rw [List.length_append, List.length_replicate]; omega)]
    rfl
theorem New_ok (n : Int) (k : Nat) (hk : 600 < k) : line_New.f k n = some (List.replicate (lenC n) (blankP 0 0 0)) := by
  obtain ⟨h1, h2⟩ := lenC_eq n
  unfold line_New.f line_length.f
  simp only [Option.bind_some]
  rw [h1, blanks_ok 0 0 0 _ (by omega) k (by omega)]
  rfl
/-- A place, within a line. -/
def clamp (x : Int) (n : Nat) : Nat := (mn (mx x 0) (n : Int)).toNat
theorem clamp_eq (x : Int) (n : Nat) : mn (mx x 0) (n : Int) = ((clamp x n : Nat) : Int) ∧ clamp x n ≤ n := by
  unfold clamp mn mx
  split <;> split <;> omega
def laidC (l : List CS) (i : Nat) (l2 : List CS) : List CS := l.take i ++ l2 ++ l.drop (i + l2.length)
theorem laidC_len (l : List CS) (i : Nat) (l2 : List CS) (h : i + l2.length ≤ l.length) : (laidC l i l2).length = l.length := by
  unfold laidC
  rw [List.length_append, List.length_append, List.length_take, List.length_drop]; omega
theorem laidC_get (l : List CS) (i : Nat) (l2 : List CS) (h : i + l2.length ≤ l.length) (j : Nat) : (laidC l i l2)[j]? = if j < i then l[j]? else if j < i + l2.length then l2[j - i]? else l[j]? := by
  unfold laidC
  have hl : (l.take i).length = i := by rw [List.length_take]; omega
  by_cases h1 : j < i
  · rw [if_pos h1, List.append_assoc, List.getElem?_append_left (by omega), List.getElem?_take, if_pos h1]
  · rw [if_neg h1, List.append_assoc, List.getElem?_append_right (by omega), hl]
    by_cases h2 : j < i + l2.length
    · rw [if_pos h2, List.getElem?_append_left (by omega)]
    · rw [if_neg h2, List.getElem?_append_right (by omega), List.getElem?_drop]
      congr 1; omega
/-- A line with blanks from a place to another one. -/
def eraseC (l : List CS) (a b : Int) (p0 p1 p2 : Int) : List CS := mendC (laidC l (clamp a l.length) (List.replicate (clamp b l.length - clamp a l.length) (blankP p0 p1 p2)))
theorem laid_ok (l : List CS) (i : Nat) (l2 : List CS) (h : i + l2.length ≤ l.length) (hl : l.length ≤ 1000000) : line_laid.f l (i : Int) l2 = some (mendC (laidC l i l2)) := by
  unfold line_laid.f laidC
  rw [if_pos ⟨by omega, by omega, by omega⟩, Int.toNat_natCast]
theorem Erase_ok (l : List CS) (a b p0 p1 p2 : Int) (hl : l.length ≤ 100000) (k : Nat) (hk : l.length < k) : line_Erase.f k l a b p0 p1 p2 = some (eraseC l a b p0 p1 p2) := by
  obtain ⟨h1, h2⟩ := clamp_eq a l.length
  obtain ⟨h3, h4⟩ := clamp_eq b l.length
  unfold line_Erase.f eraseC
  rw [h1, h3, w64 (by omega) (by omega)]
  have hm : mx 0 ((clamp b l.length : Int) - (clamp a l.length : Int)) = ((clamp b l.length - clamp a l.length : Nat) : Int) := by unfold mx; split <;> omega
  rw [hm, blanks_ok p0 p1 p2 _ (by omega) k (by omega), Int.toNat_natCast]
  simp only [Option.bind_some]
  rw [laid_ok l _ _ (by rw [List.length_replicate]; omega) (by omega)]
  rfl
theorem erase_len (l : List CS) (a b p0 p1 p2 : Int) : (eraseC l a b p0 p1 p2).length = l.length := by
  obtain ⟨h1, h2⟩ := clamp_eq a l.length
  obtain ⟨h3, h4⟩ := clamp_eq b l.length
  unfold eraseC
  rw [mend_len, laidC_len _ _ _ (by rw [List.length_replicate]; omega)]
def restS (x : CS) : CS := ⟨0, ⟨0, 0⟩, 0, x.f3⟩
def rightS (x : CS) : Bool := rightC x.f0 x.f1.f0 x.f1.f1 x.f2 x.f3.f0 x.f3.f1 x.f3.f2
/-- May a cell be put there? -/
def putOk (l : List CS) (i : Int) (c : CS) : Bool := decide (c.f2 ≠ 0) && rightS c && decide (0 ≤ i) && decide (i + c.f2 ≤ l.length)
def putC (l : List CS) (i : Int) (c : CS) : List CS := if putOk l i c = true then mendC (laidC l i.toNat (if c.f2 = 2 then [c, restS c] else [c])) else l
theorem right_le {c : CS} (h : rightS c = true) : c.f2 ≤ 2 := by
  unfold rightS rightC at h
  rw [Bool.and_eq_true] at h
  have h := h.2
  by_cases h0 : c.f2 = 0
  · omega
  · rw [if_neg h0] at h
    simp only [Bool.and_eq_true, decide_eq_true_eq] at h
    exact h.1
theorem Put_ok (l : List CS) (i : Int) (c : CS) (hi : -9223372036854775808 ≤ i ∧ i ≤ 9223372036854775807) (h8 : 0 ≤ c.f2 ∧ c.f2 ≤ 255) (hl : l.length ≤ 100000) (k : Nat) (hk : 0 < k) :
    line_Put.f k l i c.f0 c.f1.f0 c.f1.f1 c.f2 c.f3.f0 c.f3.f1 c.f3.f2 = some (putC l i c, putOk l i c) := by
  obtain ⟨k, rfl⟩ := kp hk
  have jno : ∀ b, b = true → putOk l i c = false → line_Put.j0 (k + 1) l i b c.f0 c.f1.f0 c.f1.f1 c.f2 c.f3.f0 c.f3.f1 c.f3.f2 = some (putC l i c, putOk l i c) := by
    intro b hb hp
    rw [line_Put.j0, if_pos hb]
    unfold cell_Cell_95.f putC
    rw [if_pos (by omega), hp]
    simp
  unfold line_Put.f
  by_cases h0 : c.f2 = 0
  · rw [if_pos h0]
    exact jno true rfl (by unfold putOk; simp [h0])
  · rw [if_neg h0]
    unfold cell_Right.f
    rw [if_pos h8]
    simp only [Option.bind_some]
    have hr : rightC c.f0 c.f1.f0 c.f1.f1 c.f2 c.f3.f0 c.f3.f1 c.f3.f2 = rightS c := rfl
    rw [hr]
    cases hR : rightS c
    · rw [if_neg (by simp)]
      exact jno true rfl (by unfold putOk; simp [hR])
    · rw [if_pos rfl]
      have h2 := right_le hR
      by_cases h1 : i < 0
      · rw [if_pos h1]
        exact jno true rfl (by unfold putOk; simp [show ¬ 0 ≤ i by omega])
      · rw [if_neg h1]
        by_cases h3 : i ≥ (l.length : Int)
        · rw [if_pos h3]
          exact jno true rfl (by unfold putOk; simp [show ¬ i + c.f2 ≤ (l.length : Int) by omega])
        · rw [if_neg h3, w64 (x := (l.length : Int) - i) (by omega) (by omega), w64 (x := c.f2) (by omega) (by omega)]
          by_cases h4 : (l.length : Int) - i < c.f2
          · exact jno _ (by simpa using h4) (by unfold putOk; simp [show ¬ i + c.f2 ≤ (l.length : Int) by omega])
          · have hp : putOk l i c = true := by unfold putOk; rw [hR]; simp [h0]; omega
            rw [decide_eq_false h4, line_Put.j0, if_neg (by simp), hp]
            unfold putC
            rw [if_pos hp]
            by_cases h5 : c.f2 = 2
            · rw [if_pos h5, if_pos h5]
              simp only [cell_Rest.f, Option.bind_some]
              have := laid_ok l i.toNat [c, restS c] (by simp; omega) (by omega)
              rw [show ((i.toNat : Nat) : Int) = i by omega] at this
              show (line_laid.f l i [c, restS c]).bind _ = _
              rw [this]
              rfl
            · rw [if_neg h5, if_neg h5]
              have := laid_ok l i.toNat [c] (by simp; omega) (by omega)
              rw [show ((i.toNat : Nat) : Int) = i by omega] at this
              show (line_laid.f l i [c]).bind _ = _
              rw [this]
              rfl
def penEq (x y : CS) : Bool := decide (x.f3.f0 = y.f3.f0) && (decide (x.f3.f1 = y.f3.f1) && decide (x.f3.f2 = y.f3.f2))
/-- May the cell of a place be, where it is? -/
def okR (l : List CS) (i : Nat) : Bool := match l[i]? with
  | some x => rightS x && (!aloneN l i && (decide (x.f2 ≠ 0) || match l[i - 1]? with | some y => penEq y x | none => false))
  | none => true
def rightFrom (l : List CS) : Nat → Nat → Bool
  | 0, _ => true
  | d + 1, i => okR l i && rightFrom l d (i + 1)
def rightL (l : List CS) : Bool := rightFrom l l.length 0
theorem rightFrom_iff (l : List CS) : ∀ d i, rightFrom l d i = true ↔ ∀ j, i ≤ j → j < i + d → okR l j = true
  | 0, i => by simp [rightFrom]; intro j h1 h2; omega
  | d + 1, i => by
    rw [rightFrom, Bool.and_eq_true, rightFrom_iff l d (i + 1)]
    constructor
    · rintro ⟨h, hr⟩ j h1 h2
      by_cases e : j = i
      · rw [e]; exact h
      · exact hr j (by omega) (by omega)
    · intro h
      exact ⟨h i (by omega) (by omega), fun j h1 h2 => h j (by omega) (by omega)⟩
theorem rightL_iff (l : List CS) : rightL l = true ↔ ∀ j, okR l j = true := by
  unfold rightL
  rw [rightFrom_iff]
  constructor
  · intro h j
    by_cases hj : j < l.length
    · exact h j (by omega) (by omega)
    · unfold okR; rw [List.getElem?_eq_none (by omega)]
  · intro h j _ _; exact h j
theorem Right_l (l : List CS) (h8 : ∀ x ∈ l, 0 ≤ x.f2 ∧ x.f2 ≤ 255) (hl : l.length ≤ 1000000) : ∀ (d i k : Nat), i + d = l.length → d < k → line_Right.l0 k l l (l.length : Int) (i : Int) = some (rightFrom l d i) := by
  intro d
  induction d with
  | zero =>
    intro i k hi hk
    obtain ⟨k, rfl⟩ := kp hk
    rw [line_Right.l0, if_neg (by omega)]
    rfl
  | succ d ih =>
    intro i k hi hk
    obtain ⟨k, rfl⟩ := kp hk
    have hil : i < l.length := by omega
    have hg := rd_get l i hil
    have hx := h8 (rd_T26 l (i : Int)) (List.mem_of_getElem? hg)
    rw [line_Right.l0, if_pos (by omega), if_pos (by omega), if_pos (by omega), rightFrom]
    unfold okR
    rw [hg]
    dsimp only
    generalize hX : rd_T26 l (i : Int) = x at *
    unfold cell_Right.f
    rw [if_pos hx]
    simp only [Option.bind_some]
    have hr : rightC x.f0 x.f1.f0 x.f1.f1 x.f2 x.f3.f0 x.f3.f1 x.f3.f2 = rightS x := rfl
    rw [hr]
    cases hR : rightS x
    · rw [if_neg (by simp)]; simp
    · rw [if_pos rfl]
      unfold line_alone.f
      simp only [Option.bind_some]
      rw [alone_nat l i (by omega), w64 (x := (i : Int) + 1) (by omega) (by omega), w64 (x := (i : Int) - 1) (by omega) (by omega), cast1, ih (i + 1) k (by omega) (by omega)]
      cases hA : aloneN l i
      · rw [if_neg (by simp)]
        by_cases h0 : x.f2 = 0
        · have hi0 : 0 < i := by
            by_cases e : 0 < i
            · exact e
            · obtain rfl : i = 0 := by omega
              unfold aloneN at hA
              have : hasW l 0 0 = true := by unfold hasW; rw [hg]; simp [h0]
              rw [this] at hA
              simp at hA
          rw [if_pos h0, if_pos (by omega), if_pos (by omega)]
          have hg1 := rd_get l (i - 1) (by omega)
          rw [hg1, show ((i - 1 : Nat) : Int) = (i : Int) - 1 by omega]
          generalize rd_T26 l ((i : Int) - 1) = y
          unfold penEq
          dsimp only
          by_cases e0 : y.f3.f0 = x.f3.f0 <;> by_cases e1 : y.f3.f1 = x.f3.f1 <;> by_cases e2 : y.f3.f2 = x.f3.f2 <;> simp [e0, e1, e2, h0]
        · rw [if_neg h0]
          simp [h0]
      · rw [if_pos rfl]; simp
theorem Right_ok (l : List CS) (h8 : ∀ x ∈ l, 0 ≤ x.f2 ∧ x.f2 ≤ 255) (hl : l.length ≤ 1000000) (k : Nat) (hk : l.length < k) : line_Right.f k l = some (rightL l) := by
  unfold line_Right.f rightL
  exact Right_l l h8 hl l.length 0 k (by omega) hk
theorem Cut_ok (l : List CS) : prolepsislaw06_Cut.f l = some (l.take 30) := by
  have hn := mn_len (n := l.length) (c := 30) (by omega)
  have ht : l.take (mn (l.length : Int) 30).toNat = l.take 30 := by
    by_cases h : 30 ≤ l.length
    · rw [show (mn (l.length : Int) 30).toNat = 30 by unfold mn; split <;> omega]
    · rw [List.take_of_length_le (by unfold mn; split <;> omega), List.take_of_length_le (by omega)]
  unfold prolepsislaw06_Cut.f
  simp only [Option.bind_some]
  rw [if_pos hn.1, if_pos hn.2.1, ht]
  simp only [Option.bind_some, List.nil_append, List.length_nil, Nat.zero_add]
  rw [if_pos (by rw [List.length_take]; omega)]
theorem fit_twice (l : List CS) (n : Int) : fitC (fitC l n) n = fitC l n := by
  have h1 := (lenC_eq n).2
  have hl := fit_len l n
  have hp := fit_pre_len l n
  rw [fitC, hl, Nat.sub_self, List.replicate_zero, List.append_nil, List.take_of_length_le (by omega)]
  unfold fitC
  rw [mend_idem _ (by omega)]
theorem erase_twice (l : List CS) (a b p0 p1 p2 : Int) (hl : l.length ≤ 100000) : eraseC (eraseC l a b p0 p1 p2) a b p0 p1 p2 = eraseC l a b p0 p1 p2 := by
  obtain ⟨h1, h2⟩ := clamp_eq a l.length
  obtain ⟨h3, h4⟩ := clamp_eq b l.length
  have he := erase_len l a b p0 p1 p2
  have hr : (List.replicate (clamp b l.length - clamp a l.length) (blankP p0 p1 p2)).length = clamp b l.length - clamp a l.length := List.length_replicate
  have hL : laidC (eraseC l a b p0 p1 p2) (clamp a l.length) (List.replicate (clamp b l.length - clamp a l.length) (blankP p0 p1 p2)) = eraseC l a b p0 p1 p2 := by
    refine List.ext_getElem? fun j => ?_
    rw [laidC_get _ _ _ (by rw [hr, he]; omega), hr]
    by_cases c1 : j < clamp a l.length
    · rw [if_pos c1]
    · rw [if_neg c1]
      by_cases c2 : j < clamp a l.length + (clamp b l.length - clamp a l.length)
      · rw [if_pos c2]
        have hg : (laidC l (clamp a l.length) (List.replicate (clamp b l.length - clamp a l.length) (blankP p0 p1 p2)))[j]? = some (blankP p0 p1 p2) := by
          rw [laidC_get _ _ _ (by rw [hr]; omega), if_neg c1, hr, if_pos c2, List.getElem?_replicate, if_pos (by omega)]
        unfold eraseC
        rw [mend_at _ (by rw [laidC_len _ _ _ (by rw [hr]; omega)]; omega), alone_one hg rfl, hg, List.getElem?_replicate, if_pos (by omega)]
        rfl
      · rw [if_neg c2]
  rw [eraseC, he, hL]
  unfold eraseC
  rw [mend_idem _ (by rw [laidC_len _ _ _ (by rw [hr]; omega)]; omega)]
theorem laid_one (l : List CS) (i : Nat) (c : CS) (h : i < l.length) : laidC l i [c] = l.set i c := by
  refine List.ext_getElem? fun j => ?_
  rw [laidC_get _ _ _ (by simp; omega), List.getElem?_set]
  simp only [List.length_cons, List.length_nil, Nat.zero_add]
  by_cases c1 : j < i
  · rw [if_pos c1, if_neg (by omega)]
  · rw [if_neg c1]
    by_cases c2 : j < i + 1
    · obtain rfl : j = i := by omega
      rw [if_pos c2, if_pos rfl, if_pos h]
      simp
    · rw [if_neg c2, if_neg (by omega)]
theorem put_twice (l : List CS) (i : Nat) (c d : CS) (hc : c.f2 = 1) (hd : d.f2 = 1) (h : i < l.length) (hl : l.length ≤ 100000) : mendC ((mendC (l.set i c)).set i d) = mendC (l.set i d) := by
  have hw : (l.set i c).map (·.f2) = (l.set i d).map (·.f2) := by rw [List.map_set, List.map_set, hc, hd]
  have hci : (l.set i c)[i]? = some c := by rw [List.getElem?_set, if_pos rfl, if_pos h]
  have hm : (mendC (l.set i c))[i]? = some c := by rw [mend_at _ (by rw [List.length_set]; omega), alone_one hci hc, hci]; rfl
  have hal : ∀ j, aloneN ((mendC (l.set i c)).set i d) j = false := by
    intro j
    rw [alone_congr (l' := mendC (l.set i c)) ?_ j, alone_mend _ (by rw [List.length_set]; omega)]
    refine List.ext_getElem? fun q => ?_
    rw [List.getElem?_map, List.getElem?_map, List.getElem?_set]
    by_cases e : i = q
    · subst e
      rw [if_pos rfl, if_pos (by rw [mend_len, List.length_set]; exact h), hm]
      simp [hc, hd]
    · rw [if_neg e]
  rw [mend_id _ (by rw [List.length_set, mend_len, List.length_set]; omega) hal]
  refine List.ext_getElem? fun q => ?_
  rw [List.getElem?_set, mend_at _ (by rw [List.length_set]; omega), mend_at _ (by rw [List.length_set]; omega), alone_congr hw]
  by_cases e : i = q
  · subst e
    rw [if_pos rfl, if_pos (by rw [mend_len, List.length_set]; exact h), alone_one (x := d) (by rw [List.getElem?_set, if_pos rfl, if_pos h]) hd, List.getElem?_set, if_pos rfl, if_pos h]
    rfl
  · rw [if_neg e, List.getElem?_set, if_neg e, List.getElem?_set, if_neg e]
theorem put_one (l : List CS) (i : Int) (c : CS) (h : putOk l i c = true) (h1 : c.f2 = 1) : putC l i c = mendC (l.set i.toNat c) := by
  unfold putC
  rw [if_pos h, if_neg (by omega), laid_one]
  unfold putOk at h
  simp only [Bool.and_eq_true, decide_eq_true_eq] at h
  omega
theorem LineTwice_true (l0 : List CS) (c d : CS) (i n p0 p1 p2 : Int) (hc : 0 ≤ c.f2 ∧ c.f2 ≤ 255) (hd : 0 ≤ d.f2 ∧ d.f2 ≤ 255) (hi : -9223372036854775808 ≤ i ∧ i ≤ 9223372036854775807)
    (h8 : ∀ x ∈ l0, 0 ≤ x.f2 ∧ x.f2 ≤ 255) :
    prolepsislaw06_LineTwice.f 1000 l0 c.f0 c.f1.f0 c.f1.f1 c.f2 c.f3.f0 c.f3.f1 c.f3.f2 d.f0 d.f1.f0 d.f1.f1 d.f2 d.f3.f0 d.f3.f1 d.f3.f2 i n p0 p1 p2 = some true := by
  unfold prolepsislaw06_LineTwice.f
  rw [Cut_ok l0]
  simp only [Option.bind_some]
  have hL : (l0.take 30).length ≤ 30 := by rw [List.length_take]; omega
  have h8L : ∀ x ∈ l0.take 30, 0 ≤ x.f2 ∧ x.f2 ≤ 255 := fun x hx => h8 x (List.mem_of_mem_take hx)
  generalize l0.take 30 = l at hL h8L
  have j1 : ∀ k, 998 ≤ k → prolepsislaw06_LineTwice.j1 k l i n p0 p1 p2 = some true := by
    intro k hk
    obtain ⟨k, rfl⟩ := kp (show 997 < k by omega)
    have hf := fit_len l n
    have he := erase_len l i n p0 p1 p2
    have hn := (lenC_eq n).2
    rw [prolepsislaw06_LineTwice.j1, Fit_ok l n (by omega) k (by omega), Erase_ok l i n p0 p1 p2 (by omega) k (by omega), show prolepsislaw06_known.f = some true from rfl]
    simp only [Option.bind_some, if_true]
    rw [Fit_ok _ n (by omega) k (by omega), fit_twice, Erase_ok _ i n p0 p1 p2 (by omega) k (by omega), erase_twice _ _ _ _ _ _ (by omega)]
    simp only [Option.bind_some]
    rw [Same_ok _ _ (by omega) k (by omega), Same_ok _ _ (by omega) k (by omega)]
    simp
  have j0 : ∀ b k, 999 ≤ k → (b = true → c.f2 = 1 ∧ d.f2 = 1) → prolepsislaw06_LineTwice.j0 k l i n b c.f0 c.f1.f0 c.f1.f1 c.f2 c.f3.f0 c.f3.f1 c.f3.f2 d.f0 d.f1.f0 d.f1.f1 d.f2 d.f3.f0 d.f3.f1 d.f3.f2 p0 p1 p2 = some true := by
    intro b k hk hb
    obtain ⟨k, rfl⟩ := kp (show 998 < k by omega)
    rw [prolepsislaw06_LineTwice.j0]
    cases b
    · rw [if_neg (by simp)]
      exact j1 k (by omega)
    · obtain ⟨hc1, hd1⟩ := hb rfl
      have hpl : (putC l i c).length = l.length := by
        unfold putC
        split
        · rename_i hp
          unfold putOk at hp
          simp only [Bool.and_eq_true, decide_eq_true_eq] at hp
          rw [mend_len, laidC_len]
          rw [if_neg (by omega)]; simp; omega
        · rfl
      rw [if_pos rfl, Put_ok l i c hi hc (by omega) k (by omega)]
      simp only [Option.bind_some]
      rw [Put_ok _ i d hi hd (by omega) k (by omega), Put_ok l i d hi hd (by omega) k (by omega)]
      simp only [Option.bind_some]
      cases q1 : putOk l i c
      · rw [if_neg (by simp)]; exact j1 k (by omega)
      · rw [if_pos rfl]
        cases q2 : putOk (putC l i c) i d
        · rw [if_neg (by simp)]; exact j1 k (by omega)
        · rw [if_pos rfl]
          cases q3 : putOk l i d
          · rw [if_neg (by simp)]; exact j1 k (by omega)
          · rw [if_pos rfl]
            have hil : 0 ≤ i ∧ i.toNat < l.length := by
              unfold putOk at q1
              simp only [Bool.and_eq_true, decide_eq_true_eq] at q1
              omega
            have e1 : putC l i c = mendC (l.set i.toNat c) := put_one l i c q1 hc1
            have e2 : putC (putC l i c) i d = mendC ((putC l i c).set i.toNat d) := put_one _ i d q2 hd1
            have e3 : putC l i d = mendC (l.set i.toNat d) := put_one l i d q3 hd1
            rw [e2, e3, e1, put_twice l i.toNat c d hc1 hd1 hil.2 (by omega), Same_ok _ _ (by rw [mend_len, List.length_set]; omega) k (by rw [mend_len, List.length_set]; omega)]
            simp only [Option.bind_some, decide_true, if_true]
            exact j1 k (by omega)
  by_cases hc1 : c.f2 = 1
  · rw [if_pos hc1]
    by_cases hd1 : d.f2 = 1
    · rw [if_pos hd1]
      rw [Right_ok l h8L (by omega) 1000 (by omega)]
      exact j0 _ 1000 (by omega) (fun _ => ⟨hc1, hd1⟩)
    · rw [if_neg hd1]
      exact j0 false 1000 (by omega) (fun h => by cases h)
  · rw [if_neg hc1]
    exact j0 false 1000 (by omega) (fun h => by cases h)
end Go.Proofs.Ytblcmcdifgclcaa.Pure
