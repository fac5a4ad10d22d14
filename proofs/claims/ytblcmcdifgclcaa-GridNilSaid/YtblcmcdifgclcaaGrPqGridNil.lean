/- GridNil: what its proof leads to. No condition. -/
import Derived.Test.YtblcmcdifgclcaaPGridSamex0qGridNil
import Derived.Test.YtblcmcdifgclcaaPGridSamex1qGridNil
import Derived.Test.YtblcmcdifgclcaaPGridSamex4qGridNil
import Derived.Test.YtblcmcdifgclcaaPGridSamex5qGridNil
import Derived.Test.YtblcmcdifgclcaaPGridSamex6qGridNil
import Derived.OpenShut
namespace Go.Proofs.Ytblcmcdifgclcaa.Grd
open Go.RowKit Go.Proofs.Ytblcmcdifgclcaa.PGridSame Go.Proofs.YtblcmcdifgclcaaW.PrintWords Go.Proofs.YtblcmcdifgclcaaW.PrintLast Go.Proofs.YtblcmcdifgclcaaW.PrintMore
set_option linter.unusedVariables false
set_option linter.unusedSimpArgs false
theorem w64 {x : Int} (h0 : -9223372036854775808 ≤ x) (h1 : x < 9223372036854775808) : wrap64 x = x := by unfold wrap64; omega
theorem kp {d k : Nat} (h : d < k) : ∃ m, k = m + 1 := ⟨k - 1, by omega⟩
theorem cast1 (i : Nat) : ((i : Int) + 1) = ((i + 1 : Nat) : Int) := by omega
theorem CS_ext {x y : CS} (h0 : x.f0 = y.f0) (h1 : x.f1.f0 = y.f1.f0) (h2 : x.f1.f1 = y.f1.f1) (h3 : x.f2 = y.f2) (h4 : x.f3.f0 = y.f3.f0) (h5 : x.f3.f1 = y.f3.f1) (h6 : x.f3.f2 = y.f3.f2) : x = y := by
  obtain ⟨a, ⟨b, c⟩, d, ⟨e, f, g⟩⟩ := x
  obtain ⟨a', ⟨b', c'⟩, d', ⟨e', f', g'⟩⟩ := y
  simp only at h0 h1 h2 h3 h4 h5 h6
  subst h0 h1 h2 h3 h4 h5 h6
  rfl
instance : DecidableEq CS := fun x y => decidable_of_iff (x.f0 = y.f0 ∧ x.f1.f0 = y.f1.f0 ∧ x.f1.f1 = y.f1.f1 ∧ x.f2 = y.f2 ∧ x.f3.f0 = y.f3.f0 ∧ x.f3.f1 = y.f3.f1 ∧ x.f3.f2 = y.f3.f2) ⟨fun ⟨a, b, c, d, e, f, g⟩ => CS_ext a b c d e f g, fun h => by subst h; simp⟩
theorem mend_at (l : List CS) (hl : l.length ≤ 1000000) (j : Nat) : (mendC l)[j]? = l[j]?.map (fun x => if aloneN l j = true then blankS x else x) := by
  by_cases h : j < l.length
  · rw [mend_get l j h, alone_nat l j (by omega), rd_get l j h]; rfl
  · rw [List.getElem?_eq_none (by rw [mend_len]; omega), List.getElem?_eq_none (by omega)]; rfl
theorem hasW_mend (l : List CS) (hl : l.length ≤ 1000000) (j : Nat) (v : Int) (hv : v ≠ 1) : hasW (mendC l) j v = (hasW l j v && !aloneN l j) := by
  unfold hasW
  rw [mend_at l hl j]
  cases l[j]? with
  | none => rfl
  | some x =>
    cases h : aloneN l j
    · simp
    · simp [blankS, Ne.symm hv]
theorem hasW_one {l : List CS} {j : Nat} {u v : Int} (h : hasW l j u = true) (hne : u ≠ v) : hasW l j v = false := by
  unfold hasW at *
  cases hx : l[j]? with
  | none => rfl
  | some x => rw [hx] at h; simp at h ⊢; omega
theorem alone_mend (l : List CS) (hl : l.length ≤ 1000000) (i : Nat) : aloneN (mendC l) i = false := by
  unfold aloneN
  rw [hasW_mend l hl i 2 (by decide), hasW_mend l hl (i + 1) 0 (by decide), hasW_mend l hl i 0 (by decide), hasW_mend l hl (i - 1) 2 (by decide)]
  cases h2 : hasW l i 2
  · cases h0 : hasW l i 0
    · simp
    · cases ha : aloneN l i
      · have hp : (decide (0 < i) && hasW l (i - 1) 2) = true := by
          unfold aloneN at ha
          rw [h2, h0] at ha
          simpa using ha
        simp only [Bool.and_eq_true, decide_eq_true_eq] at hp
        have hq : aloneN l (i - 1) = false := by
          unfold aloneN
          rw [hp.2, show i - 1 + 1 = i by omega, h0, hasW_one hp.2 (by decide)]
          simp
        rw [hp.2, hq]
        simp [hp.1]
      · simp
  · have h0 := hasW_one h2 (v := 0) (by decide)
    cases ha : aloneN l i
    · have hp : hasW l (i + 1) 0 = true := by
        unfold aloneN at ha
        rw [h2, h0] at ha
        simpa using ha
      have hq : aloneN l (i + 1) = false := by
        unfold aloneN
        rw [hp, show i + 1 - 1 = i by omega, h2, hasW_one hp (by decide)]
        simp
      rw [hp, hq]
      simp [h0]
    · simp [h0]
/-- Nothing is alone: it is as it was. -/
theorem mend_id (l : List CS) (hl : l.length ≤ 1000000) (h : ∀ i, aloneN l i = false) : mendC l = l := by
  refine List.ext_getElem? fun j => ?_
  rw [mend_at l hl j, h j]
  simp
theorem alone_none {l : List CS} {i : Nat} (h : l.length ≤ i) : aloneN l i = false := by
  unfold aloneN hasW
  rw [List.getElem?_eq_none (by omega)]
  simp
theorem alone_one {l : List CS} {i : Nat} {x : CS} (h : l[i]? = some x) (h1 : x.f2 = 1) : aloneN l i = false := by
  unfold aloneN hasW
  rw [h]
  simp [h1]
def blankP (p0 p1 p2 : Int) : CS := ⟨32, ⟨0, 0⟩, 1, ⟨p0, p1, p2⟩⟩
theorem blanks_l (p0 p1 p2 : Int) (n : Nat) (hn : n ≤ 1000000) : ∀ (d i k : Nat) (o : List CS), i + d = n → o.length = i → d < k → line_blanks.l0 k o (n : Int) (i : Int) p0 p1 p2 = some (o ++ List.replicate d (blankP p0 p1 p2)) := by
  intro d
  induction d with
  | zero =>
    intro i k o hi ho hk
    obtain ⟨k, rfl⟩ := kp hk
    rw [line_blanks.l0, if_neg (by omega)]
    simp
  | succ d ih =>
    intro i k o hi ho hk
    obtain ⟨k, rfl⟩ := kp hk
    rw [line_blanks.l0, if_pos (by omega)]
    simp only [cell_Blank.f, Option.bind_some]
    rw [if_pos (by omega), w64 (by omega) (by omega), cast1, ih (i + 1) k _ (by omega) (by simp; omega) (by omega), List.replicate_succ]
    simp [blankP]
theorem blanks_ok (p0 p1 p2 n : Int) (hn : n ≤ 1000000) (k : Nat) (hk : n.toNat < k) : line_blanks.f k n p0 p1 p2 = some (List.replicate n.toNat (blankP p0 p1 p2)) := by
  unfold line_blanks.f
  by_cases h : 0 ≤ n
  · have := blanks_l p0 p1 p2 n.toNat (by omega) n.toNat 0 k [] (by omega) rfl hk
    rw [show ((n.toNat : Nat) : Int) = n by omega] at this
    simpa using this
  · obtain ⟨k, rfl⟩ := kp hk
    rw [line_blanks.l0, if_neg (by omega), show n.toNat = 0 by omega]
    rfl
/-- A number as a length. -/
def lenC (n : Int) : Nat := (mn (mx n 0) 512).toNat
theorem lenC_eq (n : Int) : mn (mx n 0) 512 = ((lenC n : Nat) : Int) ∧ lenC n ≤ 512 := by
  unfold lenC mn mx
  split <;> split <;> omega
/-- A line of another length. -/
def fitC (l : List CS) (n : Int) : List CS := mendC ((l ++ List.replicate (lenC n - l.length) (blankP 0 0 0)).take (lenC n))
theorem fit_pre_len (l : List CS) (n : Int) : ((l ++ List.replicate (lenC n - l.length) (blankP 0 0 0)).take (lenC n)).length = lenC n := by
  rw [List.length_take, List.length_append, List.length_replicate]; omega
theorem fit_len (l : List CS) (n : Int) : (fitC l n).length = lenC n := by
  unfold fitC
  rw [mend_len, fit_pre_len]
theorem Fit_ok (l : List CS) (n : Int) (hl : l.length ≤ 100000) (k : Nat) (hk : 600 < k) : line_Fit.f k l n = some (fitC l n) := by
  obtain ⟨h1, h2⟩ := lenC_eq n
  unfold line_Fit.f line_length.f fitC
  simp only [Option.bind_some]
  rw [h1]
  by_cases h : ((lenC n : Nat) : Int) ≤ (l.length : Int)
  · rw [if_pos h, if_pos (by omega), Int.toNat_natCast, show lenC n - l.length = 0 by omega, List.replicate_zero, List.append_nil]
    unfold line_Mend.f
    rw [if_pos (by rw [List.length_take]; omega)]
    rfl
  · rw [if_neg h]
    unfold cell_Cell_95.f
    rw [if_pos (by omega), w64 (by omega) (by omega), blanks_ok 0 0 0 _ (by omega) k (by omega), show ((lenC n : Int) - (l.length : Int)).toNat = lenC n - l.length by omega]
    simp only [Option.bind_some]
    rw [if_pos (by rw [List.length_replicate]; omega), List.take_of_length_le (by rw [List.length_append, List.length_replicate]; omega)]
    unfold line_Mend.f
    rw [if_pos (by rw [List.length_append, List.length_replicate]; omega)]
    rfl
theorem New_ok (n : Int) (k : Nat) (hk : 600 < k) : line_New.f k n = some (List.replicate (lenC n) (blankP 0 0 0)) := by
  obtain ⟨h1, h2⟩ := lenC_eq n
  unfold line_New.f line_length.f
  simp only [Option.bind_some]
  rw [h1, blanks_ok 0 0 0 _ (by omega) k (by omega)]
  rfl
def laidC (l : List CS) (i : Nat) (l2 : List CS) : List CS := l.take i ++ l2 ++ l.drop (i + l2.length)
theorem laidC_len (l : List CS) (i : Nat) (l2 : List CS) (h : i + l2.length ≤ l.length) : (laidC l i l2).length = l.length := by
  unfold laidC
  rw [List.length_append, List.length_append, List.length_take, List.length_drop]; omega
theorem laidC_get (l : List CS) (i : Nat) (l2 : List CS) (h : i + l2.length ≤ l.length) (j : Nat) : (laidC l i l2)[j]? = if j < i then l[j]? else if j < i + l2.length then l2[j - i]? else l[j]? := by
  unfold laidC
  have hl : (l.take i).length = i := by rw [List.length_take]; omega
  by_cases h1 : j < i
  · rw [if_pos h1, List.append_assoc, List.getElem?_append_left (by omega), List.getElem?_take, if_pos h1]
  · rw [if_neg h1, List.append_assoc, List.getElem?_append_right (by omega), hl]
    by_cases h2 : j < i + l2.length
    · rw [if_pos h2, List.getElem?_append_left (by omega)]
    · rw [if_neg h2, List.getElem?_append_right (by omega), List.getElem?_drop]
      congr 1; omega
theorem laid_ok (l : List CS) (i : Nat) (l2 : List CS) (h : i + l2.length ≤ l.length) (hl : l.length ≤ 1000000) : line_laid.f l (i : Int) l2 = some (mendC (laidC l i l2)) := by
  unfold line_laid.f laidC
  rw [if_pos ⟨by omega, by omega, by omega⟩, Int.toNat_natCast]
/-- A place, within a line. -/
def clamp (x : Int) (n : Nat) : Nat := (mn (mx x 0) (n : Int)).toNat
theorem clamp_eq (x : Int) (n : Nat) : mn (mx x 0) (n : Int) = ((clamp x n : Nat) : Int) ∧ clamp x n ≤ n := by
  unfold clamp mn mx
  split <;> split <;> omega
/-- A line with blanks from a place to another one. -/
def eraseC (l : List CS) (a b : Int) (p0 p1 p2 : Int) : List CS := mendC (laidC l (clamp a l.length) (List.replicate (clamp b l.length - clamp a l.length) (blankP p0 p1 p2)))
theorem Erase_ok (l : List CS) (a b p0 p1 p2 : Int) (hl : l.length ≤ 100000) (k : Nat) (hk : l.length < k) : line_Erase.f k l a b p0 p1 p2 = some (eraseC l a b p0 p1 p2) := by
  obtain ⟨h1, h2⟩ := clamp_eq a l.length
  obtain ⟨h3, h4⟩ := clamp_eq b l.length
  unfold line_Erase.f eraseC
  rw [h1, h3, w64 (by omega) (by omega)]
  have hm : mx 0 ((clamp b l.length : Int) - (clamp a l.length : Int)) = ((clamp b l.length - clamp a l.length : Nat) : Int) := by unfold mx; split <;> omega
  rw [hm, blanks_ok p0 p1 p2 _ (by omega) k (by omega), Int.toNat_natCast]
  simp only [Option.bind_some]
  rw [laid_ok l _ _ (by rw [List.length_replicate]; omega) (by omega)]
  rfl
theorem erase_len (l : List CS) (a b p0 p1 p2 : Int) : (eraseC l a b p0 p1 p2).length = l.length := by
  obtain ⟨h1, h2⟩ := clamp_eq a l.length
  obtain ⟨h3, h4⟩ := clamp_eq b l.length
  unfold eraseC
  rw [mend_len, laidC_len _ _ _ (by rw [List.length_replicate]; omega)]
def restS (x : CS) : CS := ⟨0, ⟨0, 0⟩, 0, x.f3⟩
/-- May a cell be put there? -/
def putOk (l : List CS) (i : Int) (c : CS) : Bool := decide (c.f2 ≠ 0) && rightS c && decide (0 ≤ i) && decide (i + c.f2 ≤ l.length)
def putC (l : List CS) (i : Int) (c : CS) : List CS := if putOk l i c = true then mendC (laidC l i.toNat (if c.f2 = 2 then [c, restS c] else [c])) else l
theorem right_le {c : CS} (h : rightS c = true) : c.f2 ≤ 2 := by
  unfold rightS rightC at h
  rw [Bool.and_eq_true] at h
  have h := h.2
  by_cases h0 : c.f2 = 0
  · omega
  · rw [if_neg h0] at h
    simp only [Bool.and_eq_true, decide_eq_true_eq] at h
    exact h.1
theorem Put_ok (l : List CS) (i : Int) (c : CS) (hi : -9223372036854775808 ≤ i ∧ i ≤ 9223372036854775807) (h8 : 0 ≤ c.f2 ∧ c.f2 ≤ 255) (hl : l.length ≤ 100000) (k : Nat) (hk : 0 < k) :
    line_Put.f k l i c.f0 c.f1.f0 c.f1.f1 c.f2 c.f3.f0 c.f3.f1 c.f3.f2 = some (putC l i c, putOk l i c) := by
  obtain ⟨k, rfl⟩ := kp hk
  have jno : ∀ b, b = true → putOk l i c = false → line_Put.j0 (k + 1) l i b c.f0 c.f1.f0 c.f1.f1 c.f2 c.f3.f0 c.f3.f1 c.f3.f2 = some (putC l i c, putOk l i c) := by
    intro b hb hp
    rw [line_Put.j0, if_pos hb]
    unfold cell_Cell_95.f putC
    rw [if_pos (by omega), hp]
    simp
  unfold line_Put.f
  by_cases h0 : c.f2 = 0
  · rw [if_pos h0]
    exact jno true rfl (by unfold putOk; simp [h0])
  · rw [if_neg h0]
    unfold cell_Right.f
    rw [if_pos h8]
    simp only [Option.bind_some]
    have hr : rightC c.f0 c.f1.f0 c.f1.f1 c.f2 c.f3.f0 c.f3.f1 c.f3.f2 = rightS c := rfl
    rw [hr]
    cases hR : rightS c
    · rw [if_neg (by simp)]
      exact jno true rfl (by unfold putOk; simp [hR])
    · rw [if_pos rfl]
      have h2 := right_le hR
      by_cases h1 : i < 0
      · rw [if_pos h1]
        exact jno true rfl (by unfold putOk; simp [show ¬ 0 ≤ i by omega])
      · rw [if_neg h1]
        by_cases h3 : i ≥ (l.length : Int)
        · rw [if_pos h3]
          exact jno true rfl (by unfold putOk; simp [show ¬ i + c.f2 ≤ (l.length : Int) by omega])
        · rw [if_neg h3, w64 (x := (l.length : Int) - i) (by omega) (by omega), w64 (x := c.f2) (by omega) (by omega)]
          by_cases h4 : (l.length : Int) - i < c.f2
          · exact jno _ (by simpa using h4) (by unfold putOk; simp [show ¬ i + c.f2 ≤ (l.length : Int) by omega])
          · have hp : putOk l i c = true := by unfold putOk; rw [hR]; simp [h0]; omega
            rw [decide_eq_false h4, line_Put.j0, if_neg (by simp), hp]
            unfold putC
            rw [if_pos hp]
            by_cases h5 : c.f2 = 2
            · rw [if_pos h5, if_pos h5]
              simp only [cell_Rest.f, Option.bind_some]
              have := laid_ok l i.toNat [c, restS c] (by simp; omega) (by omega)
              rw [show ((i.toNat : Nat) : Int) = i by omega] at this
              show (line_laid.f l i [c, restS c]).bind _ = _
              rw [this]
              rfl
            · rw [if_neg h5, if_neg h5]
              have := laid_ok l i.toNat [c] (by simp; omega) (by omega)
              rw [show ((i.toNat : Nat) : Int) = i by omega] at this
              show (line_laid.f l i [c]).bind _ = _
              rw [this]
              rfl
/-- Where a mark goes. -/
def markAt (l : List CS) (i : Nat) : Nat := if hasW l i 0 && (decide (0 < i) && hasW l (i - 1) 2) then i - 1 else i
theorem markAt_le (l : List CS) (i : Nat) : markAt l i ≤ i := by unfold markAt; split <;> omega
theorem put_len (l : List CS) (i : Int) (c : CS) (hc0 : 0 ≤ c.f2) : (putC l i c).length = l.length := by
  unfold putC
  split
  · rename_i hp
    unfold putOk at hp
    simp only [Bool.and_eq_true, decide_eq_true_eq] at hp
    have := right_le hp.1.1.2
    rw [mend_len, laidC_len]
    split
    · simp; omega
    · simp; omega
  · rfl
theorem rightFrom_iff (l : List CS) : ∀ d i, rightFrom l d i = true ↔ ∀ j, i ≤ j → j < i + d → okR l j = true
  | 0, i => by simp [rightFrom]; intro j h1 h2; omega
  | d + 1, i => by
    rw [rightFrom, Bool.and_eq_true, rightFrom_iff l d (i + 1)]
    constructor
    · rintro ⟨h, hr⟩ j h1 h2
      by_cases e : j = i
      · rw [e]; exact h
      · exact hr j (by omega) (by omega)
    · intro h
      exact ⟨h i (by omega) (by omega), fun j h1 h2 => h j (by omega) (by omega)⟩
theorem rightL_iff (l : List CS) : rightL l = true ↔ ∀ j, okR l j = true := by
  unfold rightL
  rw [rightFrom_iff]
  constructor
  · intro h j
    by_cases hj : j < l.length
    · exact h j (by omega) (by omega)
    · unfold okR; rw [List.getElem?_eq_none (by omega)]
  · intro h j _ _; exact h j
theorem right_iff (c0 c1 c2 c3 c4 c5 c6 : Int) : rightC c0 c1 c2 c3 c4 c5 c6 = true ↔ penR c4 c5 c6 = true ∧ ((c3 = 0 ∧ c0 = 0 ∧ c1 = 0 ∧ c2 = 0) ∨ (c3 ≠ 0 ∧ c3 ≤ 2 ∧ wOf c0 = c3 ∧ tailC c1 c2 = true)) := by
  unfold rightC
  by_cases h : c3 = 0
  · rw [if_pos h]; simp [h]
  · rw [if_neg h]; simp [h]
theorem wOf_blank : wOf 32 = 1 := by decide
theorem right_pen {x : CS} (h : rightS x = true) : penR x.f3.f0 x.f3.f1 x.f3.f2 = true := ((right_iff _ _ _ _ _ _ _).1 h).1
theorem right_blankP {p0 p1 p2 : Int} (h : penR p0 p1 p2 = true) : rightS (blankP p0 p1 p2) = true :=
  (right_iff _ _ _ _ _ _ _).2 ⟨h, .inr ⟨show (1 : Int) ≠ 0 by decide, show (1 : Int) ≤ 2 by decide, wOf_blank, show tailC 0 0 = true by decide⟩⟩
theorem right_blankS {x : CS} (h : rightS x = true) : rightS (blankS x) = true := right_blankP (right_pen h)
theorem right_rest {x : CS} (h : rightS x = true) : rightS (restS x) = true := (right_iff _ _ _ _ _ _ _).2 ⟨show penR x.f3.f0 x.f3.f1 x.f3.f2 = true from right_pen h, .inl ⟨rfl, rfl, rfl, rfl⟩⟩
theorem pen_refl (x y : CS) (h : x.f3 = y.f3) : penEq x y = true := by unfold penEq; rw [h]; simp
theorem hasW_mem {l : List CS} {i : Nat} {v : Int} (h : hasW l i v = true) : ∃ x, l[i]? = some x ∧ x.f2 = v := by
  unfold hasW at h
  cases hx : l[i]? with
  | none => rw [hx] at h; cases h
  | some x => rw [hx] at h; exact ⟨x, rfl, by simpa using h⟩
theorem hasW_of {l : List CS} {i : Nat} {x : CS} (h : l[i]? = some x) : hasW l i x.f2 = true := by unfold hasW; rw [h]; simp
/-- What is mended is right, if its cells are, and a wide one's halves are of one pen. -/
theorem right_mend (x : List CS) (hl : x.length ≤ 1000000) (h1 : ∀ y ∈ x, rightS y = true) (h2 : ∀ j a b, x[j]? = some a → x[j + 1]? = some b → a.f2 = 2 → b.f2 = 0 → penEq a b = true) : rightL (mendC x) = true := by
  rw [rightL_iff]
  intro j
  unfold okR
  rw [mend_at x hl j]
  cases hx : x[j]? with
  | none => rfl
  | some y =>
    have hy := h1 y (List.mem_of_getElem? hx)
    simp only [Option.map_some]
    rw [alone_mend x hl]
    cases ha : aloneN x j
    · rw [if_neg (by simp), hy]
      by_cases h0 : y.f2 = 0
      · have hw := hasW_of hx
        rw [h0] at hw
        have hp : 0 < j ∧ hasW x (j - 1) 2 = true := by
          unfold aloneN at ha
          rw [hw] at ha
          simp at ha
          exact ha.2
        obtain ⟨z, hz, hz2⟩ := hasW_mem hp.2
        have hza : aloneN x (j - 1) = false := by
          unfold aloneN
          rw [hp.2, show j - 1 + 1 = j by omega, hw, hasW_one hp.2 (by decide)]
          simp
        rw [mend_at x hl (j - 1), hz]
        simp only [Option.map_some]
        rw [hza, if_neg (by simp)]
        have := h2 (j - 1) z y hz (by rw [show j - 1 + 1 = j by omega]; exact hx) hz2 h0
        simp [h0, this]
      · simp [h0]
    · rw [if_pos rfl, right_blankS hy]
      simp [blankS]
theorem right_cell {l : List CS} (h : rightL l = true) {j : Nat} {x : CS} (hx : l[j]? = some x) : rightS x = true ∧ aloneN l j = false ∧ (x.f2 = 0 → ∃ y, l[j - 1]? = some y ∧ penEq y x = true ∧ 0 < j ∧ y.f2 = 2) := by
  have := (rightL_iff l).1 h j
  unfold okR at this
  rw [hx] at this
  simp only [Bool.and_eq_true, Bool.or_eq_true] at this
  obtain ⟨h1, h2, h3⟩ := this
  have ha : aloneN l j = false := by simpa using h2
  refine ⟨h1, ha, fun h0 => ?_⟩
  have hw := hasW_of hx
  rw [h0] at hw
  have hp : 0 < j ∧ hasW l (j - 1) 2 = true := by
    unfold aloneN at ha
    rw [hw] at ha
    simp at ha
    exact ha.2
  obtain ⟨z, hz, hz2⟩ := hasW_mem hp.2
  refine ⟨z, hz, ?_, hp.1, hz2⟩
  rcases h3 with h3 | h3
  · simp [h0] at h3
  · rw [hz] at h3; exact h3
theorem right_next {l : List CS} (h : rightL l = true) {j : Nat} {a b : CS} (ha : l[j]? = some a) (hb : l[j + 1]? = some b) (h0 : b.f2 = 0) : penEq a b = true := by
  obtain ⟨y, hy, hp, -⟩ := (right_cell h hb).2.2 h0
  rw [show j + 1 - 1 = j by omega, ha] at hy
  injection hy with hy
  rw [hy]; exact hp
theorem mem_laid {l : List CS} {i : Nat} {l2 : List CS} {y : CS} (h : y ∈ laidC l i l2) : y ∈ l ∨ y ∈ l2 := by
  unfold laidC at h
  simp only [List.mem_append] at h
  rcases h with (h | h) | h
  · exact .inl (List.mem_of_mem_take h)
  · exact .inr h
  · exact .inl (List.mem_of_mem_drop h)
theorem right_put {l : List CS} (h : rightL l = true) (hl : l.length ≤ 100000) (i : Int) (c : CS) (hc0 : 0 ≤ c.f2) : rightL (putC l i c) = true := by
  unfold putC
  split
  case isFalse => exact h
  case isTrue hp =>
    have hok := hp
    unfold putOk at hok
    simp only [Bool.and_eq_true, decide_eq_true_eq] at hok
    obtain ⟨⟨⟨h0, hr⟩, hi⟩, hn⟩ := hok
    obtain ⟨n, rfl⟩ : ∃ n : Nat, i = n := ⟨i.toNat, by omega⟩
    rw [Int.toNat_natCast]
    have hle := right_le hr
    have hlen : n + (if c.f2 = 2 then [c, restS c] else [c]).length ≤ l.length := by
      split
      · simp; omega
      · simp; omega
    refine right_mend _ (by rw [laidC_len _ _ _ hlen]; omega) (fun y hy => ?_) (fun j a b ha hb h2 hb0 => ?_)
    · rcases mem_laid hy with hy | hy
      · obtain ⟨j, hj⟩ := List.getElem?_of_mem hy
        exact (right_cell h hj).1
      · split at hy
        · simp at hy
          rcases hy with rfl | rfl
          · exact hr
          · exact right_rest hr
        · simp at hy; subst hy; exact hr
    · rw [laidC_get _ _ _ hlen] at ha hb
      by_cases h1 : j + 1 < n
      · rw [if_pos (by omega)] at ha; rw [if_pos h1] at hb
        exact right_next h ha hb hb0
      · rw [if_neg h1] at hb
        by_cases e2 : c.f2 = 2
        · rw [if_pos e2] at ha hb
          simp only [List.length_cons, List.length_nil] at ha hb
          by_cases h3 : j + 1 < n + (0 + 1 + 1)
          · rw [if_pos h3] at hb
            by_cases h4 : j + 1 = n
            · rw [h4, Nat.sub_self] at hb
              simp at hb
              subst hb; omega
            · obtain rfl : j = n := by omega
              rw [if_neg (by omega), if_pos (by omega), Nat.sub_self] at ha
              rw [show j + 1 - j = 1 by omega] at hb
              simp at ha hb
              subst ha hb
              exact pen_refl _ _ rfl
          · rw [if_neg h3] at hb
            by_cases h4 : j < n + (0 + 1 + 1)
            · obtain rfl : j = n + 1 := by omega
              rw [if_neg (by omega), if_pos (by omega), show n + 1 - n = 1 by omega] at ha
              simp at ha
              subst ha
              simp [restS] at h2
            · rw [if_neg (by omega), if_neg h4] at ha
              exact right_next h ha hb hb0
        · rw [if_neg e2] at ha hb
          simp only [List.length_cons, List.length_nil] at ha hb
          by_cases h3 : j + 1 < n + (0 + 1)
          · rw [if_pos h3, show j + 1 - n = 0 by omega] at hb
            simp at hb
            subst hb; exact absurd hb0 h0
          · rw [if_neg h3] at hb
            by_cases h4 : j < n + (0 + 1)
            · obtain rfl : j = n := by omega
              rw [if_neg (by omega), if_pos h4, Nat.sub_self] at ha
              simp at ha
              subst ha; exact absurd h2 e2
            · rw [if_neg (by omega), if_neg h4] at ha
              exact right_next h ha hb hb0
theorem right_erase {l : List CS} (h : rightL l = true) (hl : l.length ≤ 100000) (a b p0 p1 p2 : Int) (hp : penR p0 p1 p2 = true) : rightL (eraseC l a b p0 p1 p2) = true := by
  obtain ⟨h1, h2⟩ := clamp_eq a l.length
  obtain ⟨h3, h4⟩ := clamp_eq b l.length
  have hr : (List.replicate (clamp b l.length - clamp a l.length) (blankP p0 p1 p2)).length = clamp b l.length - clamp a l.length := List.length_replicate
  unfold eraseC
  refine right_mend _ (by rw [laidC_len _ _ _ (by rw [hr]; omega)]; omega) (fun y hy => ?_) (fun j x y hx hy hx2 hy0 => ?_)
  · rcases mem_laid hy with hy | hy
    · obtain ⟨j, hj⟩ := List.getElem?_of_mem hy
      exact (right_cell h hj).1
    · rw [List.mem_replicate] at hy
      rw [hy.2]; exact right_blankP hp
  · rw [laidC_get _ _ _ (by rw [hr]; omega), hr] at hx hy
    have hb : ∀ (q : Nat) (z : CS), (List.replicate (clamp b l.length - clamp a l.length) (blankP p0 p1 p2))[q]? = some z → z.f2 = 1 := by
      intro q z hz
      have := List.mem_of_getElem? hz
      rw [List.mem_replicate] at this
      rw [this.2]; rfl
    have hx' : l[j]? = some x := by
      split at hx
      · exact hx
      · split at hx
        · have := hb _ _ hx; omega
        · exact hx
    have hy' : l[j + 1]? = some y := by
      split at hy
      · exact hy
      · split at hy
        · have := hb _ _ hy; omega
        · exact hy
    exact right_next h hx' hy' hy0
theorem right_fit {l : List CS} (h : rightL l = true) (n : Int) : rightL (fitC l n) = true := by
  have hn := (lenC_eq n).2
  have hp := fit_pre_len l n
  unfold fitC
  have hpen : penR 0 0 0 = true := by decide
  have hg : ∀ (j : Nat) (z : CS), ((l ++ List.replicate (lenC n - l.length) (blankP 0 0 0)).take (lenC n))[j]? = some z → l[j]? = some z ∨ z = blankP 0 0 0 := by
    intro j z hz
    rw [List.getElem?_take] at hz
    split at hz
    · rw [List.getElem?_append] at hz
      split at hz
      · exact .inl hz
      · have := List.mem_of_getElem? hz
        rw [List.mem_replicate] at this
        exact .inr this.2
    · cases hz
  refine right_mend _ (by omega) (fun y hy => ?_) (fun j x y hx hy hx2 hy0 => ?_)
  · obtain ⟨j, hj⟩ := List.getElem?_of_mem hy
    rcases hg j y hj with q | q
    · exact (right_cell h q).1
    · rw [q]; exact right_blankP hpen
  · rcases hg _ _ hx with q | q
    · rcases hg _ _ hy with r | r
      · exact right_next h q r hy0
      · rw [r] at hy0; simp [blankP] at hy0
    · rw [q] at hx2; simp [blankP] at hx2
abbrev RC := S32
def W32 (x : CS) : Prop := (-2147483648 ≤ x.f0 ∧ x.f0 ≤ 2147483647) ∧ (-2147483648 ≤ x.f1.f0 ∧ x.f1.f0 ≤ 2147483647) ∧ (-2147483648 ≤ x.f1.f1 ∧ x.f1.f1 ≤ 2147483647) ∧ (0 ≤ x.f2 ∧ x.f2 ≤ 255)
theorem w32_mend {l : List CS} (h : ∀ x ∈ l, W32 x) : ∀ x ∈ mendC l, W32 x := by
  intro x hx
  unfold mendC at hx
  rw [List.mem_mapIdx] at hx
  obtain ⟨i, hi, rfl⟩ := hx
  split
  · exact ⟨by show (-2147483648 : Int) ≤ 32 ∧ (32 : Int) ≤ _; omega, by show (-2147483648 : Int) ≤ 0 ∧ (0 : Int) ≤ _; omega, by show (-2147483648 : Int) ≤ 0 ∧ (0 : Int) ≤ _; omega, by show (0 : Int) ≤ 1 ∧ (1 : Int) ≤ _; omega⟩
  · exact h _ (List.getElem_mem hi)
theorem w32_blankP (p0 p1 p2 : Int) : W32 (blankP p0 p1 p2) := ⟨by show (-2147483648 : Int) ≤ 32 ∧ (32 : Int) ≤ _; omega, by show (-2147483648 : Int) ≤ 0 ∧ (0 : Int) ≤ _; omega, by show (-2147483648 : Int) ≤ 0 ∧ (0 : Int) ≤ _; omega, by show (0 : Int) ≤ 1 ∧ (1 : Int) ≤ _; omega⟩
theorem w32_rest (c : CS) : W32 (restS c) := ⟨by show (-2147483648 : Int) ≤ 0 ∧ (0 : Int) ≤ _; omega, by show (-2147483648 : Int) ≤ 0 ∧ (0 : Int) ≤ _; omega, by show (-2147483648 : Int) ≤ 0 ∧ (0 : Int) ≤ _; omega, by show (0 : Int) ≤ 0 ∧ (0 : Int) ≤ _; omega⟩
theorem mem_laid' {l : List CS} {i : Nat} {l2 : List CS} {y : CS} (h : y ∈ laidC l i l2) : y ∈ l ∨ y ∈ l2 := by
  unfold laidC at h
  rcases List.mem_append.1 h with h | h
  · rcases List.mem_append.1 h with h | h
    · exact .inl (List.mem_of_mem_take h)
    · exact .inr h
  · exact .inl (List.mem_of_mem_drop h)
theorem w32_put {l : List CS} (h : ∀ x ∈ l, W32 x) (i : Int) {c : CS} (hc : W32 c) : ∀ x ∈ putC l i c, W32 x := by
  unfold putC
  split
  · refine w32_mend fun x hx => ?_
    rcases mem_laid' hx with hx | hx
    · exact h x hx
    · split at hx
      · simp at hx
        rcases hx with rfl | rfl
        · exact hc
        · exact w32_rest c
      · simp at hx; rw [hx]; exact hc
  · exact h
theorem w32_erase {l : List CS} (h : ∀ x ∈ l, W32 x) (a b p0 p1 p2 : Int) : ∀ x ∈ eraseC l a b p0 p1 p2, W32 x := by
  unfold eraseC
  refine w32_mend fun x hx => ?_
  rcases mem_laid' hx with hx | hx
  · exact h x hx
  · rw [(List.mem_replicate.1 hx).2]; exact w32_blankP _ _ _
theorem w32_fit {l : List CS} (h : ∀ x ∈ l, W32 x) (n : Int) : ∀ x ∈ fitC l n, W32 x := by
  unfold fitC
  refine w32_mend fun x hx => ?_
  rcases List.mem_append.1 (List.mem_of_mem_take hx) with hx | hx
  · exact h x hx
  · rw [(List.mem_replicate.1 hx).2]; exact w32_blankP _ _ _
/-- A grid, in plain Lean: its lines, how many columns, the cursor. -/
structure GV where
  L : List (List CS)
  cols : Nat
  row : Int
  col : Int
def gHas (g : GV) (r : Int) : Bool := decide (0 ≤ r) && decide (r < g.L.length)
def gLn (g : GV) (r : Int) : List CS := g.L.getD r.toNat []
def gSet (g : GV) (r : Int) (l : List CS) : GV := { g with L := g.L.set r.toNat l }
def gPut (g : GV) (r c : Int) (x : CS) : GV × Bool := if gHas g r = true then (gSet g r (putC (gLn g r) c x), putOk (gLn g r) c x) else (g, false)
def gBring (x : Int) (n : Nat) : Int := mn (mx x 0) ((n : Int) - 1)
def gMove (g : GV) (r c : Int) : GV := { g with row := gBring r g.L.length, col := gBring c g.cols }
def gBlank (cols : Nat) (p0 p1 p2 : Int) : List CS := eraseC (List.replicate (lenC cols) (blankP 0 0 0)) 0 cols p0 p1 p2
def gShift (n : Int) (rows : Nat) : Int := mn (mx n (-(rows : Int))) rows
def gRoll (L : List (List CS)) (k : Int) (b : List CS) : List (List CS) := if 0 ≤ k then L.drop k.toNat ++ List.replicate k.toNat b else List.replicate (-k).toNat b ++ L.take (L.length - (-k).toNat)
def gScroll (g : GV) (n p0 p1 p2 : Int) : GV := if penR p0 p1 p2 = true then { g with L := gRoll g.L (gShift n g.L.length) (gBlank g.cols p0 p1 p2) } else g
def gSize (rows cols : Int) : Bool := decide (1 ≤ rows ∧ rows ≤ 512) && decide (1 ≤ cols ∧ cols ≤ 512)
def gNew (rows cols : Int) : GV := ⟨List.replicate rows.toNat (List.replicate (lenC cols) (blankP 0 0 0)), cols.toNat, 0, 0⟩
def gFit (g : GV) (rows cols : Int) : GV := gMove ⟨(g.L.take rows.toNat).map (fun l => fitC l cols) ++ List.replicate (rows.toNat - g.L.length) (List.replicate (lenC cols) (blankP 0 0 0)), cols.toNat, 0, 0⟩ g.row g.col
/-- What a grid is, whatever was done. -/
structure GV.ok (g : GV) : Prop where
  r1 : 1 ≤ g.L.length
  r2 : g.L.length ≤ 512
  c1 : 1 ≤ g.cols
  c2 : g.cols ≤ 512
  len : ∀ l ∈ g.L, l.length = g.cols
  w32 : ∀ l ∈ g.L, ∀ x ∈ l, W32 x
  rt : ∀ l ∈ g.L, rightL l = true
  row : 0 ≤ g.row ∧ g.row < g.L.length
  col : 0 ≤ g.col ∧ g.col < g.cols
theorem gLn_mem {g : GV} {r : Int} (h : gHas g r = true) : gLn g r ∈ g.L := by
  simp only [gHas, Bool.and_eq_true, decide_eq_true_eq] at h
  unfold gLn
  rw [List.getD_eq_getElem?_getD, List.getElem?_eq_getElem (by omega), Option.getD_some]
  exact List.getElem_mem _
theorem gSet_ok {g : GV} (h : g.ok) {r : Int} {l : List CS} (hl : l.length = g.cols) (hw : ∀ x ∈ l, W32 x) (hr : rightL l = true) : (gSet g r l).ok := by
  have hm : ∀ k ∈ g.L.set r.toNat l, k ∈ g.L ∨ k = l := fun k hk => List.mem_or_eq_of_mem_set hk
  refine ⟨by simpa [gSet] using h.r1, by simpa [gSet] using h.r2, h.c1, h.c2, fun k hk => (hm k hk).elim (h.len k) (fun e => by rw [e]; exact hl), fun k hk => (hm k hk).elim (h.w32 k) (fun e => by rw [e]; exact hw), fun k hk => (hm k hk).elim (h.rt k) (fun e => by rw [e]; exact hr), by simpa [gSet] using h.row, h.col⟩
theorem put_no {l : List CS} {i : Int} {c : CS} (h : putOk l i c = false) : putC l i c = l := by
  unfold putC; rw [h]; simp
theorem right_nil : rightL [] = true := rfl
theorem alone_blanks (n i : Nat) : aloneN (List.replicate n (blankP 0 0 0)) i = false := by
  rcases Nat.lt_or_ge i n with h | h
  · exact alone_one (x := blankP 0 0 0) (by rw [List.getElem?_replicate, if_pos h]) rfl
  · exact alone_none (by rw [List.length_replicate]; exact h)
theorem mend_blanks (n : Nat) (h : n ≤ 1000000) : mendC (List.replicate n (blankP 0 0 0)) = List.replicate n (blankP 0 0 0) := mend_id _ (by rw [List.length_replicate]; exact h) (alone_blanks n)
theorem right_blanks (n : Nat) (h : n ≤ 512) : rightL (List.replicate n (blankP 0 0 0)) = true := by
  have hf := right_fit right_nil (n : Int)
  have hl : lenC (n : Int) = n := by unfold lenC mn mx; split <;> split <;> omega
  unfold fitC at hf
  rw [hl, List.nil_append, List.length_nil, Nat.sub_zero, List.take_of_length_le (by rw [List.length_replicate]; exact Nat.le_refl _), mend_blanks n (by omega)] at hf
  exact hf
theorem lenC_id {n : Int} (h : 1 ≤ n ∧ n ≤ 512) : lenC n = n.toNat := by unfold lenC mn mx; split <;> split <;> omega
theorem bring_in (x : Int) {n : Nat} (h : 1 ≤ n) : 0 ≤ gBring x n ∧ gBring x n < n := by unfold gBring mn mx; split <;> split <;> omega
theorem gNew_ok {rows cols : Int} (h : gSize rows cols = true) : (gNew rows cols).ok := by
  unfold gSize at h
  rw [Bool.and_eq_true, decide_eq_true_eq, decide_eq_true_eq] at h
  obtain ⟨h1, h2⟩ := h
  have hm : ∀ l ∈ (gNew rows cols).L, l = List.replicate (lenC cols) (blankP 0 0 0) := fun l hl => (List.mem_replicate.1 hl).2
  have hL : (gNew rows cols).L.length = rows.toNat := List.length_replicate ..
  refine ⟨by omega, by omega, by show 1 ≤ cols.toNat; omega, by show cols.toNat ≤ 512; omega, fun l hl => by rw [hm l hl, List.length_replicate, lenC_id h2]; rfl, fun l hl x hx => ?_, fun l hl => ?_, ⟨Int.le_refl _, ?_⟩, ⟨Int.le_refl _, ?_⟩⟩
  · rw [hm l hl] at hx; rw [(List.mem_replicate.1 hx).2]; exact w32_blankP _ _ _
  · rw [hm l hl]; exact right_blanks _ (lenC_eq cols).2
  · rw [hL]; show (0 : Int) < _; omega
  · show (0 : Int) < (cols.toNat : Int); omega
theorem gMove_ok {g : GV} (h : g.ok) (r c : Int) : (gMove g r c).ok := by
  have h1 := bring_in r h.r1
  have h2 := bring_in c h.c1
  exact ⟨h.r1, h.r2, h.c1, h.c2, h.len, h.w32, h.rt, h1, h2⟩
theorem gPut_ok {g : GV} (h : g.ok) (r c : Int) {x : CS} (hx : W32 x) : (gPut g r c x).1.ok := by
  unfold gPut
  split
  · rename_i hr
    have hm := gLn_mem hr
    have hl := h.len _ hm
    exact gSet_ok h (by rw [put_len _ _ _ hx.2.2.2.1]; exact hl) (w32_put (h.w32 _ hm) c hx) (right_put (h.rt _ hm) (by have := h.c2; omega) c x hx.2.2.2.1)
  · exact h
theorem gShift_in (n : Int) (k : Nat) : -(k : Int) ≤ gShift n k ∧ gShift n k ≤ k := by unfold gShift mn mx; split <;> split <;> omega
theorem gRoll_len {L : List (List CS)} {k : Int} (b : List CS) (h : -(L.length : Int) ≤ k ∧ k ≤ L.length) : (gRoll L k b).length = L.length := by
  unfold gRoll
  split
  · rw [List.length_append, List.length_drop, List.length_replicate]; omega
  · rw [List.length_append, List.length_take, List.length_replicate]; omega
theorem gRoll_mem {L : List (List CS)} {k : Int} {b l : List CS} (h : l ∈ gRoll L k b) : l ∈ L ∨ l = b := by
  unfold gRoll at h
  split at h
  · rcases List.mem_append.1 h with h | h
    · exact .inl (List.mem_of_mem_drop h)
    · exact .inr (List.mem_replicate.1 h).2
  · rcases List.mem_append.1 h with h | h
    · exact .inr (List.mem_replicate.1 h).2
    · exact .inl (List.mem_of_mem_take h)
theorem gBlank_len {cols : Nat} (h : cols ≤ 512) (p0 p1 p2 : Int) : (gBlank cols p0 p1 p2).length = cols := by
  unfold gBlank
  rw [erase_len, List.length_replicate]
  unfold lenC mn mx; split <;> split <;> omega
theorem gScroll_ok {g : GV} (h : g.ok) (n p0 p1 p2 : Int) : (gScroll g n p0 p1 p2).ok := by
  unfold gScroll
  split
  · rename_i hp
    have hs := gShift_in n g.L.length
    have hl := gRoll_len (gBlank g.cols p0 p1 p2) hs
    have hle := (lenC_eq (g.cols : Int)).2
    refine ⟨by show 1 ≤ (gRoll _ _ _).length; rw [hl]; exact h.r1, by show (gRoll _ _ _).length ≤ 512; rw [hl]; exact h.r2, h.c1, h.c2, fun l hm => ?_, fun l hm => ?_, fun l hm => ?_, by show 0 ≤ g.row ∧ g.row < ((gRoll _ _ _).length : Int); rw [hl]; exact h.row, h.col⟩
    · rcases gRoll_mem hm with hm | rfl
      · exact h.len l hm
      · exact gBlank_len h.c2 _ _ _
    · rcases gRoll_mem hm with hm | rfl
      · exact h.w32 l hm
      · exact w32_erase (fun x hx => by rw [(List.mem_replicate.1 hx).2]; exact w32_blankP _ _ _) _ _ _ _ _
    · rcases gRoll_mem hm with hm | rfl
      · exact h.rt l hm
      · exact right_erase (right_blanks _ hle) (by rw [List.length_replicate]; omega) _ _ _ _ _ hp
  · exact h
end Go.Proofs.Ytblcmcdifgclcaa.Grd
