/- GridPlays: what its proof leads to. No condition. -/
import Derived.Test.YtblcmcdifgclcaaGreatG13qGridPlays
import Derived.Test.YtblcmcdifgclcaaGreatG14qGridPlays
import Derived.Test.YtblcmcdifgclcaaGreatG15qGridPlays
import Derived.Test.YtblcmcdifgclcaaGreatG16qGridPlays
import Derived.Test.YtblcmcdifgclcaaGreatG17qGridPlays
import Derived.Test.YtblcmcdifgclcaaGreatG18qGridPlays
import Derived.Test.YtblcmcdifgclcaaGreatG19qGridPlays
import Derived.Test.YtblcmcdifgclcaaGreatG20qGridPlays
import Derived.Test.YtblcmcdifgclcaaGreatG21qGridPlays
import Derived.Test.YtblcmcdifgclcaaGreatG22qGridPlays
import Derived.OpenShut
import Derived.Test.YtblcmcdifgclcaaGreatG6qGridPlays
namespace Go.Proofs.YtblcmcdifgclcaaGreat.Grd
open Go.RowKit Go.Proofs.YtblcmcdifgclcaaGreat.PGridPlays Go.Proofs.YtblcmcdifgclcaaGreatW.PrintWords Go.Proofs.YtblcmcdifgclcaaGreatW.PrintLast Go.Proofs.YtblcmcdifgclcaaGreatW.PrintMore
set_option linter.unusedVariables false
set_option linter.unusedSimpArgs false
theorem w64 {x : Int} (h0 : -9223372036854775808 ≤ x) (h1 : x < 9223372036854775808) : wrap64 x = x := by unfold wrap64; omega
theorem kp {d k : Nat} (h : d < k) : ∃ m, k = m + 1 := ⟨k - 1, by omega⟩
theorem cast1 (i : Nat) : ((i : Int) + 1) = ((i + 1 : Nat) : Int) := by omega
theorem rScalar (r : Int) : prolepsisref02_Scalar.f r = some (scalarZ r) := by
 unfold prolepsisref02_Scalar.f scalarZ
 by_cases a : 0 ≤ r <;> by_cases b : r ≤ 1114111 <;> by_cases c : r < 55296 <;> by_cases d : 57343 < r <;> simp [*] <;> omega
def flat (p : List (Int × Int)) : List Int := p.flatMap fun x => [x.1, x.2]
theorem flat_len (p : List (Int × Int)) : (flat p).length = 2 * p.length := by
 induction p with
 | nil => rfl
 | cons x t ih => simp [flat] at *; omega
theorem flat_rd (p : List (Int × Int)) : ∀ j, j < p.length → rd (flat p) ((2 * j : Nat) : Int) = (p.getD j (0, 0)).1 ∧ rd (flat p) ((2 * j + 1 : Nat) : Int) = (p.getD j (0, 0)).2 := by
 induction p with
 | nil => intro j h; simp at h
 | cons x t ih =>
  intro j h
  match j with
  | 0 => exact ⟨rfl, rfl⟩
  | j + 1 =>
   have := ih j (by simpa using h)
   have e : ∀ i : Nat, rd (flat (x :: t)) ((i + 2 : Nat) : Int) = rd (flat t) (i : Int) := fun i => by unfold rd; rw [Int.toNat_natCast, Int.toNat_natCast]; rfl
   rw [show 2 * (j + 1) = 2 * j + 2 by omega, show 2 * j + 2 + 1 = (2 * j + 1) + 2 by omega, e, e, this.1, this.2]
   exact ⟨rfl, rfl⟩
theorem in_l (r : Int) (p : List (Int × Int)) (hp : p.length ≤ 1000) : ∀ (d j k : Nat), j + d = p.length → d < k → prolepsisref03_in.l0 k r (flat p) ((2 * j : Nat) : Int) = some (inL r (p.drop j)) := by
 intro d
 induction d with
 | zero =>
  intro j k hj hk
  obtain ⟨k, rfl⟩ := kp hk
  have hf := flat_len p
  rw [prolepsisref03_in.l0, w64 (by omega) (by omega), if_neg (by omega), List.drop_eq_nil_of_le (by omega)]
  rfl
 | succ d ih =>
  intro j k hj hk
  obtain ⟨k, rfl⟩ := kp hk
  have hf := flat_len p
  obtain ⟨e1, e2⟩ := flat_rd p j (by omega)
  have hd : p.drop j = p.getD j (0, 0) :: p.drop (j + 1) := by rw [List.drop_eq_getElem_cons (show j < p.length by omega)]; simp [List.getD_eq_getElem?_getD, show j < p.length by omega]
  have ih' := ih (j + 1) k (by omega) (by omega)
  have h1 : ((2 * j : Nat) : Int) + 1 = ((2 * j + 1 : Nat) : Int) := by omega
  have h2 : ((2 * j : Nat) : Int) + 2 = ((2 * (j + 1) : Nat) : Int) := by omega
  rw [prolepsisref03_in.l0, h1, h2, w64 (x := ((2 * j + 1 : Nat) : Int)) (by omega) (by omega), w64 (x := ((2 * (j + 1) : Nat) : Int)) (by omega) (by omega), e1, e2, ih', hd,
   if_pos (by omega), if_pos (show (0 : Int) ≤ ((2 * j : Nat) : Int) by omega), if_pos (by omega), if_pos (show (0 : Int) ≤ ((2 * j + 1 : Nat) : Int) by omega)]
  by_cases a : (p.getD j (0, 0)).1 ≤ r <;> by_cases b : r ≤ (p.getD j (0, 0)).2 <;> simp only [List.getD_eq_getElem?_getD] at a b <;> simp [inL, a, b]
theorem in_ok (r : Int) (p : List (Int × Int)) (l : List Int) (h : l = flat p) (k : Nat) (hk : p.length < k) (hp : p.length ≤ 1000) : prolepsisref03_in.f k r l = some (inL r p) := by
 subst h
 unfold prolepsisref03_in.f
 have := in_l r p hp p.length 0 k (by omega) hk
 simpa using this
theorem rOf (r : Int) (k : Nat) (hk : 20 ≤ k) : prolepsisref03_Of.f k r = some (wOf r) := by
 obtain ⟨k, rfl⟩ : ∃ m, k = m + 1 := ⟨k - 1, by omega⟩
 have j1 : prolepsisref03_Of.j0 (k + 1) r true = some (-1) := by rw [prolepsisref03_Of.j0, if_pos rfl]
 have j2 : prolepsisref03_Of.j0 (k + 1) r false = some (if inL r markL = true then 0 else if inL r wideL = true then 2 else 1) := by
  rw [prolepsisref03_Of.j0, if_neg (by simp), in_ok r markL [768, 879, 8203, 8207, 8400, 8447, 65024, 65039, 65056, 65071] rfl k (by simp [markL]; omega) (by simp [markL]), in_ok r wideL [4352, 4447, 11904, 12350, 12353, 42191, 44032, 55203, 63744, 64255, 65072, 65135, 65280, 65376, 65504, 65510, 127744, 128591, 129280, 129535, 131072, 262141] rfl k (by simp [wideL]; omega) (by simp [wideL])]
  simp only [Option.bind_some]
  split <;> (try split) <;> rfl
 unfold prolepsisref03_Of.f wOf
 by_cases a : r < 32
 ·rw [if_pos a, if_pos (.inl a), j1]
 ·rw [if_neg a, in_ok r [(127, 159)] [127, 159] rfl (k + 1) (by simp; omega) (by simp)]
  simp only [Option.bind_some]
  by_cases b : 127 ≤ r ∧ r ≤ 159
  ·rw [if_pos (by simp [inL, b]), if_pos (.inr (.inl b)), j1]
  ·rw [if_neg (by simp only [inL, List.any_cons, List.any_nil, Bool.or_false, Bool.and_eq_true, decide_eq_true_eq]; exact b), rScalar]
   simp only [Option.bind_some]
   cases hs : scalarZ r
   ·rw [if_pos (.inr (.inr rfl))]; exact j1
   ·rw [if_neg (by simp; omega)]; exact j2
theorem mn_len {n : Nat} {c : Int} (hc : 0 ≤ c) : 0 ≤ mn (n : Int) c ∧ mn (n : Int) c ≤ n ∧ mn (n : Int) c ≤ c := by unfold mn; split <;> omega
theorem CS_ext {x y : CS} (h0 : x.f0 = y.f0) (h1 : x.f1.f0 = y.f1.f0) (h2 : x.f1.f1 = y.f1.f1) (h3 : x.f2 = y.f2) (h4 : x.f3.f0 = y.f3.f0) (h5 : x.f3.f1 = y.f3.f1) (h6 : x.f3.f2 = y.f3.f2) : x = y := by
 obtain ⟨a, ⟨b, c⟩, d, ⟨e, f, g⟩⟩ := x
 obtain ⟨a', ⟨b', c'⟩, d', ⟨e', f', g'⟩⟩ := y
 simp only at h0 h1 h2 h3 h4 h5 h6
 subst h0 h1 h2 h3 h4 h5 h6
 rfl
instance : DecidableEq CS := fun x y => decidable_of_iff (x.f0 = y.f0 ∧ x.f1.f0 = y.f1.f0 ∧ x.f1.f1 = y.f1.f1 ∧ x.f2 = y.f2 ∧ x.f3.f0 = y.f3.f0 ∧ x.f3.f1 = y.f3.f1 ∧ x.f3.f2 = y.f3.f2) ⟨fun ⟨a, b, c, d, e, f, g⟩ => CS_ext a b c d e f g, fun h => by subst h; simp⟩
theorem mend_at (l : List CS) (hl : l.length ≤ 1000000) (j : Nat) : (mendC l)[j]? = l[j]?.map (fun x => if aloneN l j = true then blankS x else x) := by
 by_cases h : j < l.length
 ·rw [mend_get l j h, alone_nat l j (by omega), rd_get l j h]; rfl
 ·rw [List.getElem?_eq_none (by rw [mend_len]; omega), List.getElem?_eq_none (by omega)]; rfl
theorem hasW_mend (l : List CS) (hl : l.length ≤ 1000000) (j : Nat) (v : Int) (hv : v ≠ 1) : hasW (mendC l) j v = (hasW l j v && !aloneN l j) := by
 unfold hasW
 rw [mend_at l hl j]
 cases l[j]? with
 | none => rfl
 | some x =>
  cases h : aloneN l j
  ·simp
  ·simp [blankS, Ne.symm hv]
theorem hasW_one {l : List CS} {j : Nat} {u v : Int} (h : hasW l j u = true) (hne : u ≠ v) : hasW l j v = false := by
 unfold hasW at *
 cases hx : l[j]? with
 | none => rfl
 | some x => rw [hx] at h; simp at h ⊢; omega
theorem alone_mend (l : List CS) (hl : l.length ≤ 1000000) (i : Nat) : aloneN (mendC l) i = false := by
 unfold aloneN
 rw [hasW_mend l hl i 2 (by decide), hasW_mend l hl (i + 1) 0 (by decide), hasW_mend l hl i 0 (by decide), hasW_mend l hl (i - 1) 2 (by decide)]
 cases h2 : hasW l i 2
 ·cases h0 : hasW l i 0
  ·simp
  ·cases ha : aloneN l i
   ·have hp : (decide (0 < i) && hasW l (i - 1) 2) = true := by
     unfold aloneN at ha
     rw [h2, h0] at ha
     simpa using ha
    simp only [Bool.and_eq_true, decide_eq_true_eq] at hp
    have hq : aloneN l (i - 1) = false := by
     unfold aloneN
     rw [hp.2, show i - 1 + 1 = i by omega, h0, hasW_one hp.2 (by decide)]
     simp
    rw [hp.2, hq]
    simp [hp.1]
   ·simp
 ·have h0 := hasW_one h2 (v := 0) (by decide)
  cases ha : aloneN l i
  ·have hp : hasW l (i + 1) 0 = true := by
    unfold aloneN at ha
    rw [h2, h0] at ha
    simpa using ha
   have hq : aloneN l (i + 1) = false := by
    unfold aloneN
    rw [hp, show i + 1 - 1 = i by omega, h2, hasW_one hp (by decide)]
    simp
   rw [hp, hq]
   simp [h0]
  ·simp [h0]
theorem mend_id (l : List CS) (hl : l.length ≤ 1000000) (h : ∀ i, aloneN l i = false) : mendC l = l := by
 refine List.ext_getElem? fun j => ?_
 rw [mend_at l hl j, h j]
 simp
theorem alone_congr {l l' : List CS} (h : l.map (·.f2) = l'.map (·.f2)) (i : Nat) : aloneN l i = aloneN l' i := by
 have key : ∀ k v, hasW l k v = hasW l' k v := by
  intro k v
  have := congrArg (fun x : List Int => x[k]?) h
  simp only [List.getElem?_map] at this
  unfold hasW
  cases h1 : l[k]? <;> cases h2 : l'[k]? <;> rw [h1, h2] at this <;> simp at this ⊢
  rw [this]
 unfold aloneN
 rw [key, key, key, key]
theorem alone_none {l : List CS} {i : Nat} (h : l.length ≤ i) : aloneN l i = false := by
 unfold aloneN hasW
 rw [List.getElem?_eq_none (by omega)]
 simp
theorem alone_one {l : List CS} {i : Nat} {x : CS} (h : l[i]? = some x) (h1 : x.f2 = 1) : aloneN l i = false := by
 unfold aloneN hasW
 rw [h]
 simp [h1]
theorem Same_l (a : List CS) (hl : a.length ≤ 1000000) (b : List CS) (hb : b.length = a.length) : ∀ (d i k : Nat), i + d = a.length → d < k → cell_Cell_97.l0 k a b (a.length : Int) (i : Int) = some (decide (a.drop i = b.drop i)) := by
 intro d
 induction d with
 | zero =>
  intro i k hi hk
  obtain ⟨k, rfl⟩ := kp hk
  rw [cell_Cell_97.l0, if_neg (by omega), List.drop_eq_nil_of_le (by omega), List.drop_eq_nil_of_le (by omega)]
  simp
 | succ d ih =>
  intro i k hi hk
  obtain ⟨k, rfl⟩ := kp hk
  rw [cell_Cell_97.l0, if_pos (by omega), if_pos (by omega), if_pos (by omega), if_pos (by omega)]
  have ha : a.drop i = rd_T40 a (i : Int) :: a.drop (i + 1) := by
   rw [List.drop_eq_getElem_cons (show i < a.length by omega)]
   congr 1
   have := rd_get a i (by omega)
   rw [List.getElem?_eq_getElem (by omega)] at this
   exact Option.some.inj this
  have hb' : b.drop i = rd_T40 b (i : Int) :: b.drop (i + 1) := by
   rw [List.drop_eq_getElem_cons (show i < b.length by omega)]
   congr 1
   have := rd_get b i (by omega)
   rw [List.getElem?_eq_getElem (by omega)] at this
   exact Option.some.inj this
  rw [ha, hb']
  generalize rd_T40 a (i : Int) = x
  generalize rd_T40 b (i : Int) = y
  by_cases e : x = y
  ·subst e
   rw [if_neg (by simp), w64 (by omega) (by omega), cast1, ih (i + 1) k (by omega) (by omega)]
   simp
  ·rw [if_pos]
   ·simp [e]
   ·by_cases h0 : x.f0 = y.f0 <;> by_cases h1 : x.f1.f0 = y.f1.f0 <;> by_cases h2 : x.f1.f1 = y.f1.f1 <;> by_cases h3 : x.f2 = y.f2 <;> by_cases h4 : x.f3.f0 = y.f3.f0 <;> by_cases h5 : x.f3.f1 = y.f3.f1 <;> by_cases h6 : x.f3.f2 = y.f3.f2 <;> first | exact absurd (CS_ext h0 h1 h2 h3 h4 h5 h6) e | simp [*]
theorem Same_ok (a b : List CS) (hl : a.length ≤ 1000000) (k : Nat) (hk : a.length < k) : line_Same.f k a b = some (decide (a = b)) := by
 unfold line_Same.f cell_Cell_97.f
 by_cases h : (a.length : Int) = (b.length : Int)
 ·rw [if_pos h]
  have := Same_l a hl b (by omega) a.length 0 k (by omega) hk
  simp only [List.drop_zero] at this
  rw [show ((0 : Int)) = ((0 : Nat) : Int) by rfl, this]
  rfl
 ·rw [if_neg h]
  have : a ≠ b := fun e => h (by rw [e])
  simp [this]
def blankP (p0 p1 p2 : Int) : CS := ⟨32, ⟨0, 0⟩, 1, ⟨p0, p1, p2⟩⟩
theorem blanks_l (p0 p1 p2 : Int) (n : Nat) (hn : n ≤ 1000000) : ∀ (d i k : Nat) (o : List CS), i + d = n → o.length = i → d < k → line_blanks.l0 k o (n : Int) (i : Int) p0 p1 p2 = some (o ++ List.replicate d (blankP p0 p1 p2)) := by
 intro d
 induction d with
 | zero =>
  intro i k o hi ho hk
  obtain ⟨k, rfl⟩ := kp hk
  rw [line_blanks.l0, if_neg (by omega)]
  simp
 | succ d ih =>
  intro i k o hi ho hk
  obtain ⟨k, rfl⟩ := kp hk
  rw [line_blanks.l0, if_pos (by omega)]
  simp only [cell_Blank.f, Option.bind_some]
  rw [if_pos (by omega), w64 (by omega) (by omega), cast1, ih (i + 1) k _ (by omega) (by simp; omega) (by omega), List.replicate_succ]
  simp [blankP]
theorem blanks_ok (p0 p1 p2 n : Int) (hn : n ≤ 1000000) (k : Nat) (hk : n.toNat < k) : line_blanks.f k n p0 p1 p2 = some (List.replicate n.toNat (blankP p0 p1 p2)) := by
 unfold line_blanks.f
 by_cases h : 0 ≤ n
 ·have := blanks_l p0 p1 p2 n.toNat (by omega) n.toNat 0 k [] (by omega) rfl hk
  rw [show ((n.toNat : Nat) : Int) = n by omega] at this
  simpa using this
 ·obtain ⟨k, rfl⟩ := kp hk
  rw [line_blanks.l0, if_neg (by omega), show n.toNat = 0 by omega]
  rfl
def lenC (n : Int) : Nat := (mn (mx n 0) 512).toNat
theorem lenC_eq (n : Int) : mn (mx n 0) 512 = ((lenC n : Nat) : Int) ∧ lenC n ≤ 512 := by
 unfold lenC mn mx
 split <;> split <;> omega
def fitC (l : List CS) (n : Int) : List CS := mendC ((l ++ List.replicate (lenC n - l.length) (blankP 0 0 0)).take (lenC n))
theorem fit_pre_len (l : List CS) (n : Int) : ((l ++ List.replicate (lenC n - l.length) (blankP 0 0 0)).take (lenC n)).length = lenC n := by
 rw [List.length_take, List.length_append, List.length_replicate]; omega
theorem fit_len (l : List CS) (n : Int) : (fitC l n).length = lenC n := by
 unfold fitC
 rw [mend_len, fit_pre_len]
theorem Fit_ok (l : List CS) (n : Int) (hl : l.length ≤ 100000) (k : Nat) (hk : 600 < k) : line_Fit.f k l n = some (fitC l n) := by
 obtain ⟨h1, h2⟩ := lenC_eq n
 unfold line_Fit.f line_length.f fitC
 simp only [Option.bind_some]
 rw [h1]
 by_cases h : ((lenC n : Nat) : Int) ≤ (l.length : Int)
 ·rw [if_pos h, if_pos (by omega), Int.toNat_natCast, show lenC n - l.length = 0 by omega, List.replicate_zero, List.append_nil]
  unfold line_Mend.f
  rw [if_pos (by rw [List.length_take]; omega)]
  rfl
 ·rw [if_neg h]
  unfold cell_Cell_52.f
  rw [if_pos (by omega), w64 (by omega) (by omega), blanks_ok 0 0 0 _ (by omega) k (by omega), show ((lenC n : Int) - (l.length : Int)).toNat = lenC n - l.length by omega]
  simp only [Option.bind_some]
  rw [if_pos (by rw [List.length_replicate]; omega), List.take_of_length_le (by rw [List.length_append, List.length_replicate]; omega)]
  unfold line_Mend.f
  rw [if_pos (by rw [List.length_append, List.length_replicate]; omega)]
  rfl
theorem New_ok (n : Int) (k : Nat) (hk : 600 < k) : line_New.f k n = some (List.replicate (lenC n) (blankP 0 0 0)) := by
 obtain ⟨h1, h2⟩ := lenC_eq n
 unfold line_New.f line_length.f
 simp only [Option.bind_some]
 rw [h1, blanks_ok 0 0 0 _ (by omega) k (by omega)]
 rfl
def laidC (l : List CS) (i : Nat) (l2 : List CS) : List CS := l.take i ++ l2 ++ l.drop (i + l2.length)
theorem laidC_len (l : List CS) (i : Nat) (l2 : List CS) (h : i + l2.length ≤ l.length) : (laidC l i l2).length = l.length := by
 unfold laidC
 rw [List.length_append, List.length_append, List.length_take, List.length_drop]; omega
theorem laidC_get (l : List CS) (i : Nat) (l2 : List CS) (h : i + l2.length ≤ l.length) (j : Nat) : (laidC l i l2)[j]? = if j < i then l[j]? else if j < i + l2.length then l2[j - i]? else l[j]? := by
 unfold laidC
 have hl : (l.take i).length = i := by rw [List.length_take]; omega
 by_cases h1 : j < i
 ·rw [if_pos h1, List.append_assoc, List.getElem?_append_left (by omega), List.getElem?_take, if_pos h1]
 ·rw [if_neg h1, List.append_assoc, List.getElem?_append_right (by omega), hl]
  by_cases h2 : j < i + l2.length
  ·rw [if_pos h2, List.getElem?_append_left (by omega)]
  ·rw [if_neg h2, List.getElem?_append_right (by omega), List.getElem?_drop]
   congr 1; omega
theorem laid_ok (l : List CS) (i : Nat) (l2 : List CS) (h : i + l2.length ≤ l.length) (hl : l.length ≤ 1000000) : line_laid.f l (i : Int) l2 = some (mendC (laidC l i l2)) := by
 unfold line_laid.f laidC
 rw [if_pos ⟨by omega, by omega, by omega⟩, Int.toNat_natCast]
def clamp (x : Int) (n : Nat) : Nat := (mn (mx x 0) (n : Int)).toNat
theorem clamp_eq (x : Int) (n : Nat) : mn (mx x 0) (n : Int) = ((clamp x n : Nat) : Int) ∧ clamp x n ≤ n := by
 unfold clamp mn mx
 split <;> split <;> omega
def eraseC (l : List CS) (a b : Int) (p0 p1 p2 : Int) : List CS := mendC (laidC l (clamp a l.length) (List.replicate (clamp b l.length - clamp a l.length) (blankP p0 p1 p2)))
theorem Erase_ok (l : List CS) (a b p0 p1 p2 : Int) (hl : l.length ≤ 100000) (k : Nat) (hk : l.length < k) : line_Erase.f k l a b p0 p1 p2 = some (eraseC l a b p0 p1 p2) := by
 obtain ⟨h1, h2⟩ := clamp_eq a l.length
 obtain ⟨h3, h4⟩ := clamp_eq b l.length
 unfold line_Erase.f eraseC
 rw [h1, h3, w64 (by omega) (by omega)]
 have hm : mx 0 ((clamp b l.length : Int) - (clamp a l.length : Int)) = ((clamp b l.length - clamp a l.length : Nat) : Int) := by unfold mx; split <;> omega
 rw [hm, blanks_ok p0 p1 p2 _ (by omega) k (by omega), Int.toNat_natCast]
 simp only [Option.bind_some]
 rw [laid_ok l _ _ (by rw [List.length_replicate]; omega) (by omega)]
 rfl
theorem erase_len (l : List CS) (a b p0 p1 p2 : Int) : (eraseC l a b p0 p1 p2).length = l.length := by
 obtain ⟨h1, h2⟩ := clamp_eq a l.length
 obtain ⟨h3, h4⟩ := clamp_eq b l.length
 unfold eraseC
 rw [mend_len, laidC_len _ _ _ (by rw [List.length_replicate]; omega)]
def restS (x : CS) : CS := ⟨0, ⟨0, 0⟩, 0, x.f3⟩
def putOk (l : List CS) (i : Int) (c : CS) : Bool := decide (c.f2 ≠ 0) && rightS c && decide (0 ≤ i) && decide (i + c.f2 ≤ l.length)
def putC (l : List CS) (i : Int) (c : CS) : List CS := if putOk l i c = true then mendC (laidC l i.toNat (if c.f2 = 2 then [c, restS c] else [c])) else l
theorem right_le {c : CS} (h : rightS c = true) : c.f2 ≤ 2 := by
 unfold rightS rightC at h
 rw [Bool.and_eq_true] at h
 have h := h.2
 by_cases h0 : c.f2 = 0
 ·omega
 ·rw [if_neg h0] at h
  simp only [Bool.and_eq_true, decide_eq_true_eq] at h
  exact h.1
theorem Put_ok (l : List CS) (i : Int) (c : CS) (hi : -9223372036854775808 ≤ i ∧ i ≤ 9223372036854775807) (h8 : 0 ≤ c.f2 ∧ c.f2 ≤ 255) (hl : l.length ≤ 100000) (k : Nat) (hk : 0 < k) :
 line_Put.f k l i c.f0 c.f1.f0 c.f1.f1 c.f2 c.f3.f0 c.f3.f1 c.f3.f2 = some (putC l i c, putOk l i c) := by
 obtain ⟨k, rfl⟩ := kp hk
 have jno : ∀ b, b = true → putOk l i c = false → line_Put.j0 (k + 1) l i b c.f0 c.f1.f0 c.f1.f1 c.f2 c.f3.f0 c.f3.f1 c.f3.f2 = some (putC l i c, putOk l i c) := by
  intro b hb hp
  rw [line_Put.j0, if_pos hb]
  unfold cell_Cell_52.f putC
  rw [if_pos (by omega), hp]
  simp
 unfold line_Put.f
 by_cases h0 : c.f2 = 0
 ·rw [if_pos h0]
  exact jno true rfl (by unfold putOk; simp [h0])
 ·rw [if_neg h0]
  unfold cell_Right.f
  rw [if_pos h8]
  simp only [Option.bind_some]
  have hr : rightC c.f0 c.f1.f0 c.f1.f1 c.f2 c.f3.f0 c.f3.f1 c.f3.f2 = rightS c := rfl
  rw [hr]
  cases hR : rightS c
  ·rw [if_neg (by simp)]
   exact jno true rfl (by unfold putOk; simp [hR])
  ·rw [if_pos rfl]
   have h2 := right_le hR
   by_cases h1 : i < 0
   ·rw [if_pos h1]
    exact jno true rfl (by unfold putOk; simp [show ¬ 0 ≤ i by omega])
   ·rw [if_neg h1]
    by_cases h3 : i ≥ (l.length : Int)
    ·rw [if_pos h3]
     exact jno true rfl (by unfold putOk; simp [show ¬ i + c.f2 ≤ (l.length : Int) by omega])
    ·rw [if_neg h3, w64 (x := (l.length : Int) - i) (by omega) (by omega), w64 (x := c.f2) (by omega) (by omega)]
     by_cases h4 : (l.length : Int) - i < c.f2
     ·exact jno _ (by simpa using h4) (by unfold putOk; simp [show ¬ i + c.f2 ≤ (l.length : Int) by omega])
     ·have hp : putOk l i c = true := by unfold putOk; rw [hR]; simp [h0]; omega
      rw [decide_eq_false h4, line_Put.j0, if_neg (by simp), hp]
      unfold putC
      rw [if_pos hp]
      by_cases h5 : c.f2 = 2
      ·rw [if_pos h5, if_pos h5]
       simp only [cell_Rest.f, Option.bind_some]
       have := laid_ok l i.toNat [c, restS c] (by simp; omega) (by omega)
       rw [show ((i.toNat : Nat) : Int) = i by omega] at this
       show (line_laid.f l i [c, restS c]).bind _ = _
       rw [this]
       rfl
      ·rw [if_neg h5, if_neg h5]
       have := laid_ok l i.toNat [c] (by simp; omega) (by omega)
       rw [show ((i.toNat : Nat) : Int) = i by omega] at this
       show (line_laid.f l i [c]).bind _ = _
       rw [this]
       rfl
theorem Cut_ok (l : List CS) : prolepsislaw06_Cut.f l = some (l.take 30) := by
 have hn := mn_len (n := l.length) (c := 30) (by omega)
 have ht : l.take (mn (l.length : Int) 30).toNat = l.take 30 := by
  by_cases h : 30 ≤ l.length
  ·rw [show (mn (l.length : Int) 30).toNat = 30 by unfold mn; split <;> omega]
  ·rw [List.take_of_length_le (by unfold mn; split <;> omega), List.take_of_length_le (by omega)]
 unfold prolepsislaw06_Cut.f
 simp only [Option.bind_some]
 rw [if_pos hn.1, if_pos hn.2.1, ht]
 simp only [Option.bind_some, List.nil_append, List.length_nil, Nat.zero_add]
 rw [if_pos (by rw [List.length_take]; omega)]
def markS (x : CS) (r : Int) : CS := ⟨(markC x.f0 x.f1.f0 x.f1.f1 x.f2 x.f3.f0 x.f3.f1 x.f3.f2 r).1, ⟨(markC x.f0 x.f1.f0 x.f1.f1 x.f2 x.f3.f0 x.f3.f1 x.f3.f2 r).2.1, (markC x.f0 x.f1.f0 x.f1.f1 x.f2 x.f3.f0 x.f3.f1 x.f3.f2 r).2.2.1⟩, (markC x.f0 x.f1.f0 x.f1.f1 x.f2 x.f3.f0 x.f3.f1 x.f3.f2 r).2.2.2.1, ⟨(markC x.f0 x.f1.f0 x.f1.f1 x.f2 x.f3.f0 x.f3.f1 x.f3.f2 r).2.2.2.2.1, (markC x.f0 x.f1.f0 x.f1.f1 x.f2 x.f3.f0 x.f3.f1 x.f3.f2 r).2.2.2.2.2.1, (markC x.f0 x.f1.f0 x.f1.f1 x.f2 x.f3.f0 x.f3.f1 x.f3.f2 r).2.2.2.2.2.2.1⟩⟩
def markB (x : CS) (r : Int) : Bool := (markC x.f0 x.f1.f0 x.f1.f1 x.f2 x.f3.f0 x.f3.f1 x.f3.f2 r).2.2.2.2.2.2.2
def markAt (l : List CS) (i : Nat) : Nat := if hasW l i 0 && (decide (0 < i) && hasW l (i - 1) 2) then i - 1 else i
def markL (l : List CS) (i : Int) (r : Int) : List CS := if 0 ≤ i ∧ i < l.length then l.set (markAt l i.toNat) (markS (rd_T40 l ((markAt l i.toNat : Nat) : Int)) r) else l
def markOk (l : List CS) (i : Int) (r : Int) : Bool := decide (0 ≤ i ∧ i < l.length) && markB (rd_T40 l ((markAt l i.toNat : Nat) : Int)) r
theorem hasW_at' (l : List CS) (i : Nat) (v : Int) (h : i < l.length) : hasW l i v = decide ((rd_T40 l (i : Int)).f2 = v) := by
 unfold hasW
 rw [rd_get l i h]
theorem markAt_le (l : List CS) (i : Nat) : markAt l i ≤ i := by unfold markAt; split <;> omega
theorem markL_len (l : List CS) (i r : Int) : (markL l i r).length = l.length := by unfold markL; split <;> simp
theorem Mark_ok (l : List CS) (i r : Int) (hl : l.length ≤ 100000) (k : Nat) (hk : 0 < k) : line_Mark.f k l i r = some (markL l i r, markOk l i r) := by
 obtain ⟨k, rfl⟩ := kp hk
 unfold line_Mark.f cell_Cell_52.f
 rw [if_pos (by omega)]
 simp only [Option.bind_some]
 by_cases h0 : i < 0
 ·rw [if_pos h0, line_Mark.j0, if_pos rfl]
  unfold markL markOk
  have hin : ¬ (0 ≤ i ∧ i < (l.length : Int)) := by omega
  rw [if_neg hin, decide_eq_false hin]; rfl
 ·rw [if_neg h0]
  by_cases h1 : i ≥ (l.length : Int)
  ·rw [decide_eq_true h1, line_Mark.j0, if_pos rfl]
   unfold markL markOk
   have hin : ¬ (0 ≤ i ∧ i < (l.length : Int)) := by omega
   rw [if_neg hin, decide_eq_false hin]; rfl
  ·obtain ⟨n, rfl⟩ : ∃ n : Nat, i = n := ⟨i.toNat, by omega⟩
   have hn : n < l.length := by omega
   rw [decide_eq_false h1, line_Mark.j0, if_neg (by simp), if_pos (by omega), if_pos (by omega)]
   unfold markL markOk
   have hin : 0 ≤ (n : Int) ∧ (n : Int) < (l.length : Int) := by omega
   rw [if_pos hin, decide_eq_true hin, Bool.true_and, Int.toNat_natCast]
   have hA := hasW_at' l n 0 hn
   by_cases h2 : (rd_T40 l (n : Int)).f2 = 0
   ·rw [if_pos h2]
    by_cases h3 : 0 < n
    ·rw [if_pos (by omega), w64 (by omega) (by omega), show (n : Int) - 1 = ((n - 1 : Nat) : Int) by omega, if_pos (by omega), if_pos (by omega)]
     have hB := hasW_at' l (n - 1) 2 (by omega)
     by_cases h4 : (rd_T40 l ((n - 1 : Nat) : Int)).f2 = 2
     ·rw [if_pos h4]
      unfold cell_Mark.f
      simp only [Option.bind_some]
      have hm : markAt l n = n - 1 := by unfold markAt; rw [hA, hB]; simp [h2, h4, h3]
      rw [if_pos (by omega), hm, Int.toNat_natCast]
      rfl
     ·rw [if_neg h4]
      unfold cell_Mark.f
      simp only [Option.bind_some]
      have hm : markAt l n = n := by unfold markAt; rw [hA, hB]; simp [h4]
      rw [if_pos (by omega), hm]
      rfl
    ·rw [if_neg (by omega)]
     unfold cell_Mark.f
     simp only [Option.bind_some]
     have hm : markAt l n = n := by unfold markAt; simp [h3]
     rw [if_pos (by omega), hm]
     rfl
   ·rw [if_neg h2]
    unfold cell_Mark.f
    simp only [Option.bind_some]
    have hm : markAt l n = n := by unfold markAt; rw [hA]; simp [h2]
    rw [if_pos (by omega), hm]
    rfl
theorem put_len (l : List CS) (i : Int) (c : CS) (hc0 : 0 ≤ c.f2) : (putC l i c).length = l.length := by
 unfold putC
 split
 ·rename_i hp
  unfold putOk at hp
  simp only [Bool.and_eq_true, decide_eq_true_eq] at hp
  have := right_le hp.1.1.2
  rw [mend_len, laidC_len]
  split
  ·simp; omega
  ·simp; omega
 ·rfl
theorem rightFrom_iff (l : List CS) : ∀ d i, rightFrom l d i = true ↔ ∀ j, i ≤ j → j < i + d → okR l j = true
 | 0, i => by simp [rightFrom]; intro j h1 h2; omega
 | d + 1, i => by
  rw [rightFrom, Bool.and_eq_true, rightFrom_iff l d (i + 1)]
  constructor
  ·rintro ⟨h, hr⟩ j h1 h2
   by_cases e : j = i
   ·rw [e]; exact h
   ·exact hr j (by omega) (by omega)
  ·intro h
   exact ⟨h i (by omega) (by omega), fun j h1 h2 => h j (by omega) (by omega)⟩
theorem rightL_iff (l : List CS) : rightL l = true ↔ ∀ j, okR l j = true := by
 unfold rightL
 rw [rightFrom_iff]
 constructor
 ·intro h j
  by_cases hj : j < l.length
  ·exact h j (by omega) (by omega)
  ·unfold okR; rw [List.getElem?_eq_none (by omega)]
 ·intro h j _ _; exact h j
theorem Right_ok (l : List CS) (h8 : ∀ x ∈ l, 0 ≤ x.f2 ∧ x.f2 ≤ 255) (hl : l.length ≤ 1000000) (k : Nat) (hk : l.length < k) : line_Right.f l = some (rightL l) := by
 unfold line_Right.f
 rw [if_pos ⟨List.all_eq_true.2 (fun x hx => decide_eq_true (h8 x hx)), hl⟩]
theorem right_iff (c0 c1 c2 c3 c4 c5 c6 : Int) : rightC c0 c1 c2 c3 c4 c5 c6 = true ↔ penR c4 c5 c6 = true ∧ ((c3 = 0 ∧ c0 = 0 ∧ c1 = 0 ∧ c2 = 0) ∨ (c3 ≠ 0 ∧ c3 ≤ 2 ∧ wOf c0 = c3 ∧ tailC c1 c2 = true)) := by
 unfold rightC
 by_cases h : c3 = 0
 ·rw [if_pos h]; simp [h]
 ·rw [if_neg h]; simp [h]
theorem tail_iff (c1 c2 : Int) : tailC c1 c2 = true ↔ (c1 = 0 ∧ c2 = 0) ∨ (c1 ≠ 0 ∧ wOf c1 = 0 ∧ (c2 = 0 ∨ wOf c2 = 0)) := by
 unfold tailC
 by_cases h : c1 = 0
 ·rw [if_pos h]; simp [h]
 ·rw [if_neg h]; simp [h]
theorem wOf_zero : wOf 0 = -1 := by decide
theorem wOf_blank : wOf 32 = 1 := by decide
theorem right_pen {x : CS} (h : rightS x = true) : penR x.f3.f0 x.f3.f1 x.f3.f2 = true := ((right_iff _ _ _ _ _ _ _).1 h).1
theorem right_blankP {p0 p1 p2 : Int} (h : penR p0 p1 p2 = true) : rightS (blankP p0 p1 p2) = true :=
 (right_iff _ _ _ _ _ _ _).2 ⟨h, .inr ⟨show (1 : Int) ≠ 0 by decide, show (1 : Int) ≤ 2 by decide, wOf_blank, show tailC 0 0 = true by decide⟩⟩
theorem right_blankS {x : CS} (h : rightS x = true) : rightS (blankS x) = true := right_blankP (right_pen h)
theorem right_rest {x : CS} (h : rightS x = true) : rightS (restS x) = true := (right_iff _ _ _ _ _ _ _).2 ⟨show penR x.f3.f0 x.f3.f1 x.f3.f2 = true from right_pen h, .inl ⟨rfl, rfl, rfl, rfl⟩⟩
theorem mark_right {x : CS} (h : rightS x = true) (h0 : x.f2 ≠ 0) (r : Int) : rightS (markS x r) = true ∧ (markS x r).f2 = x.f2 ∧ (markS x r).f3 = x.f3 := by
 have hx := (right_iff _ _ _ _ _ _ _).1 h
 obtain ⟨hp, ⟨h1, -⟩ | ⟨-, h2, h3, h4⟩⟩ := hx
 ·exact absurd h1 h0
 ·have ht := (tail_iff _ _).1 h4
  unfold markS markC
  by_cases c : wOf r = 0 ∧ (x.f2 = 1 ∨ x.f2 = 2)
  ·have hr : r ≠ 0 := fun e => by rw [e, wOf_zero] at c; omega
   rw [if_pos c]
   by_cases d : x.f1.f0 = 0
   ·rw [if_pos d]
    refine ⟨(right_iff _ _ _ _ _ _ _).2 ⟨hp, .inr ⟨h0, h2, h3, (tail_iff _ _).2 (.inr ⟨hr, c.1, ?_⟩)⟩⟩, rfl, rfl⟩
    rcases ht with ⟨-, e⟩ | ⟨e, -⟩
    ·exact .inl e
    ·exact absurd d e
   ·rw [if_neg d]
    by_cases e : x.f1.f1 = 0
    ·rw [if_pos e]
     refine ⟨(right_iff _ _ _ _ _ _ _).2 ⟨hp, .inr ⟨h0, h2, h3, (tail_iff _ _).2 (.inr ⟨d, ?_, .inr c.1⟩)⟩⟩, rfl, rfl⟩
     rcases ht with ⟨e, -⟩ | ⟨-, e, -⟩
     ·exact absurd e d
     ·exact e
    ·rw [if_neg e]; exact ⟨h, rfl, rfl⟩
  ·rw [if_neg c]; exact ⟨h, rfl, rfl⟩
theorem pen_refl (x y : CS) (h : x.f3 = y.f3) : penEq x y = true := by unfold penEq; rw [h]; simp
theorem hasW_mem {l : List CS} {i : Nat} {v : Int} (h : hasW l i v = true) : ∃ x, l[i]? = some x ∧ x.f2 = v := by
 unfold hasW at h
 cases hx : l[i]? with
 | none => rw [hx] at h; cases h
 | some x => rw [hx] at h; exact ⟨x, rfl, by simpa using h⟩
theorem hasW_of {l : List CS} {i : Nat} {x : CS} (h : l[i]? = some x) : hasW l i x.f2 = true := by unfold hasW; rw [h]; simp
theorem right_mend (x : List CS) (hl : x.length ≤ 1000000) (h1 : ∀ y ∈ x, rightS y = true) (h2 : ∀ j a b, x[j]? = some a → x[j + 1]? = some b → a.f2 = 2 → b.f2 = 0 → penEq a b = true) : rightL (mendC x) = true := by
 rw [rightL_iff]
 intro j
 unfold okR
 rw [mend_at x hl j]
 cases hx : x[j]? with
 | none => rfl
 | some y =>
  have hy := h1 y (List.mem_of_getElem? hx)
  simp only [Option.map_some]
  rw [alone_mend x hl]
  cases ha : aloneN x j
  ·rw [if_neg (by simp), hy]
   by_cases h0 : y.f2 = 0
   ·have hw := hasW_of hx
    rw [h0] at hw
    have hp : 0 < j ∧ hasW x (j - 1) 2 = true := by
     unfold aloneN at ha
     rw [hw] at ha
     simp at ha
     exact ha.2
    obtain ⟨z, hz, hz2⟩ := hasW_mem hp.2
    have hza : aloneN x (j - 1) = false := by
     unfold aloneN
     rw [hp.2, show j - 1 + 1 = j by omega, hw, hasW_one hp.2 (by decide)]
     simp
    rw [mend_at x hl (j - 1), hz]
    simp only [Option.map_some]
    rw [hza, if_neg (by simp)]
    have := h2 (j - 1) z y hz (by rw [show j - 1 + 1 = j by omega]; exact hx) hz2 h0
    simp [h0, this]
   ·simp [h0]
  ·rw [if_pos rfl, right_blankS hy]
   simp [blankS]
theorem right_cell {l : List CS} (h : rightL l = true) {j : Nat} {x : CS} (hx : l[j]? = some x) : rightS x = true ∧ aloneN l j = false ∧ (x.f2 = 0 → ∃ y, l[j - 1]? = some y ∧ penEq y x = true ∧ 0 < j ∧ y.f2 = 2) := by
 have := (rightL_iff l).1 h j
 unfold okR at this
 rw [hx] at this
 simp only [Bool.and_eq_true, Bool.or_eq_true] at this
 obtain ⟨h1, h2, h3⟩ := this
 have ha : aloneN l j = false := by simpa using h2
 refine ⟨h1, ha, fun h0 => ?_⟩
 have hw := hasW_of hx
 rw [h0] at hw
 have hp : 0 < j ∧ hasW l (j - 1) 2 = true := by
  unfold aloneN at ha
  rw [hw] at ha
  simp at ha
  exact ha.2
 obtain ⟨z, hz, hz2⟩ := hasW_mem hp.2
 refine ⟨z, hz, ?_, hp.1, hz2⟩
 rcases h3 with h3 | h3
 ·simp [h0] at h3
 ·rw [hz] at h3; exact h3
theorem right_next {l : List CS} (h : rightL l = true) {j : Nat} {a b : CS} (ha : l[j]? = some a) (hb : l[j + 1]? = some b) (h0 : b.f2 = 0) : penEq a b = true := by
 obtain ⟨y, hy, hp, -⟩ := (right_cell h hb).2.2 h0
 rw [show j + 1 - 1 = j by omega, ha] at hy
 injection hy with hy
 rw [hy]; exact hp
theorem mem_laid {l : List CS} {i : Nat} {l2 : List CS} {y : CS} (h : y ∈ laidC l i l2) : y ∈ l ∨ y ∈ l2 := by
 unfold laidC at h
 simp only [List.mem_append] at h
 rcases h with (h | h) | h
 ·exact .inl (List.mem_of_mem_take h)
 ·exact .inr h
 ·exact .inl (List.mem_of_mem_drop h)
theorem right_put {l : List CS} (h : rightL l = true) (hl : l.length ≤ 100000) (i : Int) (c : CS) (hc0 : 0 ≤ c.f2) : rightL (putC l i c) = true := by
 unfold putC
 split
 case isFalse => exact h
 case isTrue hp =>
  have hok := hp
  unfold putOk at hok
  simp only [Bool.and_eq_true, decide_eq_true_eq] at hok
  obtain ⟨⟨⟨h0, hr⟩, hi⟩, hn⟩ := hok
  obtain ⟨n, rfl⟩ : ∃ n : Nat, i = n := ⟨i.toNat, by omega⟩
  rw [Int.toNat_natCast]
  have hle := right_le hr
  have hlen : n + (if c.f2 = 2 then [c, restS c] else [c]).length ≤ l.length := by
   split
   ·simp; omega
   ·simp; omega
  refine right_mend _ (by rw [laidC_len _ _ _ hlen]; omega) (fun y hy => ?_) (fun j a b ha hb h2 hb0 => ?_)
  ·rcases mem_laid hy with hy | hy
   ·obtain ⟨j, hj⟩ := List.getElem?_of_mem hy
    exact (right_cell h hj).1
   ·split at hy
    ·simp at hy
     rcases hy with rfl | rfl
     ·exact hr
     ·exact right_rest hr
    ·simp at hy; subst hy; exact hr
  ·rw [laidC_get _ _ _ hlen] at ha hb
   by_cases h1 : j + 1 < n
   ·rw [if_pos (by omega)] at ha; rw [if_pos h1] at hb
    exact right_next h ha hb hb0
   ·rw [if_neg h1] at hb
    by_cases e2 : c.f2 = 2
    ·rw [if_pos e2] at ha hb
     simp only [List.length_cons, List.length_nil] at ha hb
     by_cases h3 : j + 1 < n + (0 + 1 + 1)
     ·rw [if_pos h3] at hb
      by_cases h4 : j + 1 = n
      ·rw [h4, Nat.sub_self] at hb
       simp at hb
       subst hb; omega
      ·obtain rfl : j = n := by omega
       rw [if_neg (by omega), if_pos (by omega), Nat.sub_self] at ha
       rw [show j + 1 - j = 1 by omega] at hb
       simp at ha hb
       subst ha hb
       exact pen_refl _ _ rfl
     ·rw [if_neg h3] at hb
      by_cases h4 : j < n + (0 + 1 + 1)
      ·obtain rfl : j = n + 1 := by omega
       rw [if_neg (by omega), if_pos (by omega), show n + 1 - n = 1 by omega] at ha
       simp at ha
       subst ha
       simp [restS] at h2
      ·rw [if_neg (by omega), if_neg h4] at ha
       exact right_next h ha hb hb0
    ·rw [if_neg e2] at ha hb
     simp only [List.length_cons, List.length_nil] at ha hb
     by_cases h3 : j + 1 < n + (0 + 1)
     ·rw [if_pos h3, show j + 1 - n = 0 by omega] at hb
      simp at hb
      subst hb; exact absurd hb0 h0
     ·rw [if_neg h3] at hb
      by_cases h4 : j < n + (0 + 1)
      ·obtain rfl : j = n := by omega
       rw [if_neg (by omega), if_pos h4, Nat.sub_self] at ha
       simp at ha
       subst ha; exact absurd h2 e2
      ·rw [if_neg (by omega), if_neg h4] at ha
       exact right_next h ha hb hb0
theorem right_erase {l : List CS} (h : rightL l = true) (hl : l.length ≤ 100000) (a b p0 p1 p2 : Int) (hp : penR p0 p1 p2 = true) : rightL (eraseC l a b p0 p1 p2) = true := by
 obtain ⟨h1, h2⟩ := clamp_eq a l.length
 obtain ⟨h3, h4⟩ := clamp_eq b l.length
 have hr : (List.replicate (clamp b l.length - clamp a l.length) (blankP p0 p1 p2)).length = clamp b l.length - clamp a l.length := List.length_replicate
 unfold eraseC
 refine right_mend _ (by rw [laidC_len _ _ _ (by rw [hr]; omega)]; omega) (fun y hy => ?_) (fun j x y hx hy hx2 hy0 => ?_)
 ·rcases mem_laid hy with hy | hy
  ·obtain ⟨j, hj⟩ := List.getElem?_of_mem hy
   exact (right_cell h hj).1
  ·rw [List.mem_replicate] at hy
   rw [hy.2]; exact right_blankP hp
 ·rw [laidC_get _ _ _ (by rw [hr]; omega), hr] at hx hy
  have hb : ∀ (q : Nat) (z : CS), (List.replicate (clamp b l.length - clamp a l.length) (blankP p0 p1 p2))[q]? = some z → z.f2 = 1 := by
   intro q z hz
   have := List.mem_of_getElem? hz
   rw [List.mem_replicate] at this
   rw [this.2]; rfl
  have hx' : l[j]? = some x := by
   split at hx
   ·exact hx
   ·split at hx
    ·have := hb _ _ hx; omega
    ·exact hx
  have hy' : l[j + 1]? = some y := by
   split at hy
   ·exact hy
   ·split at hy
    ·have := hb _ _ hy; omega
    ·exact hy
  exact right_next h hx' hy' hy0
theorem right_fit {l : List CS} (h : rightL l = true) (n : Int) : rightL (fitC l n) = true := by
 have hn := (lenC_eq n).2
 have hp := fit_pre_len l n
 unfold fitC
 have hpen : penR 0 0 0 = true := by decide
 have hg : ∀ (j : Nat) (z : CS), ((l ++ List.replicate (lenC n - l.length) (blankP 0 0 0)).take (lenC n))[j]? = some z → l[j]? = some z ∨ z = blankP 0 0 0 := by
  intro j z hz
  rw [List.getElem?_take] at hz
  split at hz
  ·rw [List.getElem?_append] at hz
   split at hz
   ·exact .inl hz
   ·have := List.mem_of_getElem? hz
    rw [List.mem_replicate] at this
    exact .inr this.2
  ·cases hz
 refine right_mend _ (by omega) (fun y hy => ?_) (fun j x y hx hy hx2 hy0 => ?_)
 ·obtain ⟨j, hj⟩ := List.getElem?_of_mem hy
  rcases hg j y hj with q | q
  ·exact (right_cell h q).1
  ·rw [q]; exact right_blankP hpen
 ·rcases hg _ _ hx with q | q
  ·rcases hg _ _ hy with r | r
   ·exact right_next h q r hy0
   ·rw [r] at hy0; simp [blankP] at hy0
  ·rw [q] at hx2; simp [blankP] at hx2
theorem right_mark {l : List CS} (h : rightL l = true) (hl : l.length ≤ 100000) (i r : Int) : rightL (markL l i r) = true := by
 unfold markL
 split
 case isFalse => exact h
 case isTrue hi =>
  obtain ⟨n, rfl⟩ : ∃ n : Nat, i = n := ⟨i.toNat, by omega⟩
  rw [Int.toNat_natCast]
  have hle := markAt_le l n
  have hg := rd_get l (markAt l n) (by omega)
  obtain ⟨hx, -, hx0⟩ := right_cell h hg
  have h0 : (rd_T40 l ((markAt l n : Nat) : Int)).f2 ≠ 0 := by
   intro e
   obtain ⟨y, hy, -, hpos, hy2⟩ := hx0 e
   have hw := hasW_of hg
   rw [e] at hw
   have hw2 := hasW_of hy
   rw [hy2] at hw2
   by_cases q : markAt l n = n
   ·rw [q] at hw hw2 hpos
    have : markAt l n = n - 1 := by unfold markAt; rw [hw, hw2]; simp [hpos]
    omega
   ·have hm : markAt l n = n - 1 ∧ hasW l (n - 1) 2 = true := by
     unfold markAt at q ⊢
     split at q
     ·rename_i hc
      simp at hc
      rw [if_pos (by simp [hc])]
      exact ⟨rfl, hc.2.2⟩
     ·exact absurd rfl q
    rw [hm.1] at hw
    rw [hasW_one hm.2 (by decide)] at hw
    cases hw
  generalize markAt l n = m at *
  obtain ⟨hr, hw, hf⟩ := mark_right hx h0 r
  generalize rd_T40 l (m : Int) = x at *
  have hwid : (l.set m (markS x r)).map (·.f2) = l.map (·.f2) := by
   refine List.ext_getElem? fun q => ?_
   rw [List.getElem?_map, List.getElem?_map, List.getElem?_set]
   split
   ·rename_i e; subst e
    rw [if_pos (by omega), hg]; simp [hw]
   ·rfl
  have hset : ∀ (q : Nat) (z : CS), (l.set m (markS x r))[q]? = some z → ∃ y : CS, l[q]? = some y ∧ z.f2 = y.f2 ∧ z.f3 = y.f3 ∧ rightS z = true := by
   intro q z hz
   rw [List.getElem?_set] at hz
   split at hz
   ·rename_i e; subst e
    rw [if_pos (by omega)] at hz
    injection hz with hz
    subst hz
    exact ⟨x, hg, hw, hf, hr⟩
   ·exact ⟨z, hz, rfl, rfl, (right_cell h hz).1⟩
  rw [rightL_iff]
  intro j
  unfold okR
  cases hz : (l.set m (markS x r))[j]? with
  | none => rfl
  | some z =>
   obtain ⟨y, hy, e2, e3, hrz⟩ := hset j z hz
   obtain ⟨-, ha, h00⟩ := right_cell h hy
   simp only []
   rw [hrz, alone_congr hwid, ha]
   by_cases q : z.f2 = 0
   ·obtain ⟨u, hu, hp, -⟩ := h00 (by omega)
    have : ∃ v, (l.set m (markS x r))[j - 1]? = some v := by
     rw [List.getElem?_set]
     split
     ·rw [if_pos (by omega)]; exact ⟨_, rfl⟩
     ·exact ⟨u, hu⟩
    obtain ⟨v, hv⟩ := this
    obtain ⟨u', hu', -, e3', -⟩ := hset _ v hv
    rw [hu] at hu'
    injection hu' with hu'
    subst hu'
    rw [hv]
    have : penEq v z = true := by unfold penEq at hp ⊢; rw [e3', e3]; exact hp
    simp [q, this]
   ·simp [q]
def In8 (l : List CS) : Prop := ∀ x ∈ l, 0 ≤ x.f2 ∧ x.f2 ≤ 255
theorem markS_f2 (x : CS) (r : Int) : (markS x r).f2 = x.f2 := by
 unfold markS markC
 split
 ·split
  ·rfl
  ·split <;> rfl
 ·rfl
theorem in8_mark {l : List CS} (h : In8 l) (i r : Int) : In8 (markL l i r) := by
 unfold markL
 split
 ·rename_i hi
  intro y hy
  have hle := markAt_le l i.toNat
  rcases List.mem_or_eq_of_mem_set hy with q | q
  ·exact h y q
  ·rw [q, markS_f2]
   exact h _ (List.mem_of_getElem? (rd_get l _ (by omega)))
 ·exact h
abbrev RC := S52
def toR (x : CS) : RC := ⟨x.f0, ⟨x.f1.f0, x.f1.f1⟩, x.f2, ⟨x.f3.f0, x.f3.f1, x.f3.f2⟩⟩
def W32 (x : CS) : Prop := (-2147483648 ≤ x.f0 ∧ x.f0 ≤ 2147483647) ∧ (-2147483648 ≤ x.f1.f0 ∧ x.f1.f0 ≤ 2147483647) ∧ (-2147483648 ≤ x.f1.f1 ∧ x.f1.f1 ≤ 2147483647) ∧ (0 ≤ x.f2 ∧ x.f2 ≤ 255)
theorem rd_mem (l : List CS) (i : Nat) (h : i < l.length) : rd_T40 l (i : Int) ∈ l := List.mem_of_getElem? (rd_get l i h)
theorem rd_R (l : List CS) (i : Nat) (h : i < l.length) : rd_T52 (l.map toR) (i : Int) = toR (rd_T40 l (i : Int)) := by
 have h1 := rd_get l i h
 unfold rd_T52
 rw [Int.toNat_natCast, List.getD_eq_getElem?_getD, List.getElem?_map, h1]
 rfl
theorem lOf1_ok (x : CS) (h : W32 x) : prolepsislaw05_Of.f x.f0 x.f1.f0 x.f1.f1 x.f2 x.f3.f0 x.f3.f1 x.f3.f2 = some (x.f0, x.f1.f0, x.f1.f1, x.f2, x.f3.f0, x.f3.f1, x.f3.f2) := by
 obtain ⟨h0, h1, h2, -⟩ := h
 unfold prolepsislaw05_Of.f
 rw [w64 (by omega) (by omega), w64 (by omega) (by omega), w64 (by omega) (by omega)]
theorem Of_l (l : List CS) (h : ∀ x ∈ l, W32 x) (hl : l.length ≤ 1000000) : ∀ (d i k : Nat) (o : List RC), i + d = l.length → o.length = i → d < k → prolepsislaw06_Of.l0 k l o (i : Int) = some (o ++ (l.drop i).map toR) := by
 intro d
 induction d with
 | zero =>
  intro i k o hi ho hk
  obtain ⟨k, rfl⟩ := kp hk
  rw [prolepsislaw06_Of.l0, if_neg (by omega), List.drop_eq_nil_of_le (by omega)]
  simp
 | succ d ih =>
  intro i k o hi ho hk
  obtain ⟨k, rfl⟩ := kp hk
  have hil : i < l.length := by omega
  have hd : l.drop i = rd_T40 l (i : Int) :: l.drop (i + 1) := by
   rw [List.drop_eq_getElem_cons hil]
   congr 1
   have := rd_get l i hil
   rw [List.getElem?_eq_getElem hil] at this
   exact Option.some.inj this
  rw [prolepsislaw06_Of.l0, if_pos (by omega), if_pos (by omega), lOf1_ok _ (h _ (rd_mem l i hil))]
  simp only [Option.bind_some]
  rw [if_pos (by omega), w64 (by omega) (by omega), cast1, ih (i + 1) k _ (by omega) (by simp; omega) (by omega), hd]
  simp [toR]
theorem Of_ok (l : List CS) (h : ∀ x ∈ l, W32 x) (hl : l.length ≤ 1000000) (k : Nat) (hk : l.length < k) : prolepsislaw06_Of.f k l = some (l.map toR) := by
 unfold prolepsislaw06_Of.f
 have := Of_l l h hl l.length 0 k [] (by omega) rfl hk
 simpa using this
theorem r4_ok (a b c : Int) : prolepsisref04_Right.f a b c = some (penR a b c) := by
 unfold prolepsisref04_Right.f penR
 by_cases h1 : a ≤ 31 <;> by_cases h2 : b ≤ 16 <;> by_cases h3 : c ≤ 16 <;> simp [h1, h2, h3] <;> omega
def restC (c0 c1 c2 c3 : Int) : Bool := if c3 = 0 then (c0 == 0 && (c1 == 0 && c2 == 0)) else ((wOf c0 == c3) && tailC c1 c2)
theorem rj_ok (b : Bool) (c0 c1 c2 c3 c4 c5 c6 : Int) (h8 : 0 ≤ c3 ∧ c3 ≤ 255) (k : Nat) (hk : 30 ≤ k) : prolepsisref05_Right.j0 k b c0 c1 c2 c3 c4 c5 c6 = some (!b && restC c0 c1 c2 c3) := by
 obtain ⟨k, rfl⟩ : ∃ m, k = m + 1 := ⟨k - 1, by omega⟩
 rw [prolepsisref05_Right.j0, w64 (by omega) (by omega), rOf c0 k (by omega), rOf c1 k (by omega), rOf c2 k (by omega)]
 simp only [Option.bind_some]
 unfold restC tailC
 cases b
 ·by_cases h3 : c3 = 0
  ·by_cases a0 : c0 = 0 <;> by_cases a1 : c1 = 0 <;> simp [h3, a0, a1]
  ·by_cases a : wOf c0 = c3
   ·by_cases a1 : c1 = 0 <;> by_cases a2 : c2 = 0 <;> by_cases b1 : wOf c1 = 0 <;> simp [h3, a, a1, a2, b1]
   ·simp [h3, a]
 ·simp
theorem rRight_ok (c0 c1 c2 c3 c4 c5 c6 : Int) (h8 : 0 ≤ c3 ∧ c3 ≤ 255) (k : Nat) (hk : 30 ≤ k) : prolepsisref05_Right.f k c0 c1 c2 c3 c4 c5 c6 = some (rightC c0 c1 c2 c3 c4 c5 c6) := by
 unfold prolepsisref05_Right.f rightC
 rw [r4_ok]
 simp only [Option.bind_some, rj_ok _ _ _ _ _ _ _ _ h8 k hk, restC]
 cases penR c4 c5 c6
 ·simp
 ·by_cases h3 : c3 = 0
  ·simp [h3]
  ·by_cases h2 : c3 ≤ 2
   ·simp [h3, h2, show ¬ 2 < c3 by omega]
   ·simp [h3, h2, show 2 < c3 by omega]
theorem hasW_at (l : List CS) (i : Nat) (v : Int) (h : i < l.length) : hasW l i v = decide ((rd_T40 l (i : Int)).f2 = v) := by
 unfold hasW
 rw [rd_get l i h]
theorem hasW_out (l : List CS) (i : Nat) (v : Int) (h : l.length ≤ i) : hasW l i v = false := by
 unfold hasW
 rw [List.getElem?_eq_none h]
theorem ralone_ok (l : List CS) (i : Nat) (h : i < l.length) (hl : l.length ≤ 1000000) : prolepsisref06_alone.f (l.map toR) (i : Int) = some (aloneN l i) := by
 unfold prolepsisref06_alone.f aloneN
 rw [if_pos (by omega), List.length_map, if_pos (by omega), rd_R l i h, hasW_at l i 2 h, hasW_at l i 0 h, w64 (x := (i : Int) + 1) (by omega) (by omega), w64 (x := (i : Int) - 1) (by omega) (by omega), cast1]
 show (if (rd_T40 l (i : Int)).f2 = 2 then _ else if (rd_T40 l (i : Int)).f2 = 0 then _ else _) = _
 by_cases h2 : (rd_T40 l (i : Int)).f2 = 2
 ·rw [if_pos h2, h2]
  by_cases h3 : i + 1 < l.length
  ·rw [if_neg (by omega), if_pos (by omega), if_pos (by omega), rd_R l (i + 1) h3, hasW_at l (i + 1) 0 h3]
   show some ((rd_T40 l ((i + 1 : Nat) : Int)).f2 != 0) = _
   generalize rd_T40 l ((i + 1 : Nat) : Int) = y
   by_cases h4 : y.f2 = 0 <;> simp [h4]
  ·rw [if_pos (by omega), hasW_out l (i + 1) 0 (by omega)]
   simp
 ·rw [if_neg h2]
  by_cases h0 : (rd_T40 l (i : Int)).f2 = 0
  ·rw [if_pos h0, h0]
   by_cases h3 : i = 0
   ·subst h3; simp
   ·rw [if_neg (by omega), if_pos (by omega), if_pos (by omega), show (i : Int) - 1 = ((i - 1 : Nat) : Int) by omega, rd_R l (i - 1) (by omega), hasW_at l (i - 1) 2 (by omega)]
    show some ((rd_T40 l ((i - 1 : Nat) : Int)).f2 != 2) = _
    generalize rd_T40 l ((i - 1 : Nat) : Int) = y
    have : 0 < i := by omega
    by_cases h4 : y.f2 = 2 <;> simp [h4, this]
  ·rw [if_neg h0]
   simp [h0, h2]
theorem drop_cs (l : List CS) (i : Nat) (h : i < l.length) : l.drop i = rd_T40 l (i : Int) :: l.drop (i + 1) := by
 rw [List.drop_eq_getElem_cons h]
 congr 1
 have := rd_get l i h
 rw [List.getElem?_eq_getElem h] at this
 exact Option.some.inj this
theorem rSame_l (a : List CS) (hl : a.length ≤ 1000000) (b : List CS) (hb : b.length = a.length) : ∀ (d i k : Nat), i + d = a.length → d < k → prolepsisref06_Same.l0 k (a.map toR) (b.map toR) (i : Int) = some (decide (a.drop i = b.drop i)) := by
 intro d
 induction d with
 | zero =>
  intro i k hi hk
  obtain ⟨k, rfl⟩ := kp hk
  rw [prolepsisref06_Same.l0, List.length_map, if_neg (by omega), List.drop_eq_nil_of_le (by omega), List.drop_eq_nil_of_le (by omega)]
  simp
 | succ d ih =>
  intro i k hi hk
  obtain ⟨k, rfl⟩ := kp hk
  rw [prolepsisref06_Same.l0, List.length_map, List.length_map, if_pos (by omega), if_pos (by omega), if_pos (by omega), rd_R a i (by omega), rd_R b i (by omega), drop_cs a i (by omega), drop_cs b i (by omega)]
  generalize rd_T40 a (i : Int) = x
  generalize rd_T40 b (i : Int) = y
  by_cases e : x = y
  ·subst e
   rw [if_neg (by simp), w64 (by omega) (by omega), cast1, ih (i + 1) k (by omega) (by omega)]
   simp
  ·rw [if_pos]
   ·simp [e]
   ·dsimp only [toR]
    by_cases h0 : x.f0 = y.f0 <;> by_cases h1 : x.f1.f0 = y.f1.f0 <;> by_cases h2 : x.f1.f1 = y.f1.f1 <;> by_cases h3 : x.f2 = y.f2 <;> by_cases h4 : x.f3.f0 = y.f3.f0 <;> by_cases h5 : x.f3.f1 = y.f3.f1 <;> by_cases h6 : x.f3.f2 = y.f3.f2 <;> first | exact absurd (CS_ext h0 h1 h2 h3 h4 h5 h6) e | simp [*]
theorem rSame_ok (a b : List CS) (hl : a.length ≤ 1000000) (k : Nat) (hk : a.length < k) : prolepsisref06_Same.f k (a.map toR) (b.map toR) = some (decide (a = b)) := by
 unfold prolepsisref06_Same.f
 rw [List.length_map, List.length_map]
 by_cases h : (a.length : Int) = (b.length : Int)
 ·rw [if_pos h]
  have := rSame_l a hl b (by omega) a.length 0 k (by omega) hk
  simp only [List.drop_zero] at this
  rw [show ((0 : Int)) = ((0 : Nat) : Int) by rfl, this]
 ·rw [if_neg h]
  have : a ≠ b := fun e => h (by rw [e])
  simp [this]
theorem rd_cs (l : List CS) (i : Nat) (h : i < l.length) : rd_T40 l (i : Int) = l[i] := by
 have := rd_get l i h
 rw [List.getElem?_eq_getElem h] at this
 exact (Option.some.inj this).symm
theorem rMend_l (l : List CS) (hl : l.length ≤ 1000000) : ∀ (d i k : Nat) (o : List RC), i + d = l.length → o.length = i → d < k → prolepsisref06_Mend.l0 k (l.map toR) o (i : Int) = some (o ++ ((mendC l).drop i).map toR)
 | 0, i, k + 1, o, hi, ho, hk => by
  rw [prolepsisref06_Mend.l0, if_neg (by rw [List.length_map]; omega), List.drop_eq_nil_of_le (by rw [mend_len]; omega)]
  simp
 | d + 1, i, k + 1, o, hi, ho, hk => by
  have hil : i < l.length := by omega
  have hm : i < (mendC l).length := by rw [mend_len]; omega
  have hd : (mendC l).drop i = (if aloneN l i = true then blankS l[i] else l[i]) :: (mendC l).drop (i + 1) := by
   rw [List.drop_eq_getElem_cons hm]
   congr 1
   have := mend_at l hl i
   rw [List.getElem?_eq_getElem hm, List.getElem?_eq_getElem hil] at this
   exact Option.some.inj this
  rw [prolepsisref06_Mend.l0, if_pos (by rw [List.length_map]; omega), if_pos (by omega), ralone_ok l i hil hl, Option.bind_some, hd]
  by_cases ha : aloneN l i = true
  ·rw [if_pos ha, if_pos ha]
   unfold prolepsisref05_Blank.f
   rw [Option.bind_some, if_pos (by omega), w64 (by omega) (by omega), cast1, rMend_l l hl d (i + 1) k _ (by omega) (by simp; omega) (by omega), rd_R l i hil, rd_cs l i hil]
   simp [toR, blankS]
  ·rw [if_neg ha, if_neg ha, if_pos (by omega), w64 (by omega) (by omega), cast1, rMend_l l hl d (i + 1) k _ (by omega) (by simp; omega) (by omega), rd_R l i hil, rd_cs l i hil]
   simp [toR]
theorem rMend_ok (l : List CS) (hl : l.length ≤ 1000000) (k : Nat) (hk : l.length < k) : prolepsisref06_Mend.f k (l.map toR) = some ((mendC l).map toR) := by
 unfold prolepsisref06_Mend.f
 have := rMend_l l hl l.length 0 k [] (by omega) rfl hk
 simpa using this
def fillC (n : Nat) (f : Nat → CS) : List CS := (List.range n).map f
theorem fill_len (n : Nat) (f : Nat → CS) : (fillC n f).length = n := by simp [fillC]
theorem fill_snoc (n : Nat) (f : Nat → CS) : fillC (n + 1) f = fillC n f ++ [f n] := by unfold fillC; rw [List.range_succ]; simp
theorem fill_get (n : Nat) (f : Nat → CS) (j : Nat) : (fillC n f)[j]? = if j < n then some (f j) else none := by
 unfold fillC
 by_cases h : j < n
 ·simp [h]
 ·simp [h]
theorem fill_eq {n : Nat} {f : Nat → CS} {l : List CS} (h : ∀ j, l[j]? = if j < n then some (f j) else none) : fillC n f = l := List.ext_getElem? fun j => by rw [fill_get, h]
def eraseAt (l : List CS) (a b p0 p1 p2 : Int) (j : Nat) : CS := if a ≤ (j : Int) ∧ (j : Int) < b then blankP p0 p1 p2 else rd_T40 l (j : Int)
theorem rErase_l (l : List CS) (hl : l.length ≤ 100000) (a b p0 p1 p2 : Int) : ∀ (d i k : Nat), i + d = l.length → d + l.length + 2 < k → prolepsisref06_Erase.l0 k (l.map toR) a b ((fillC i (eraseAt l a b p0 p1 p2)).map toR) (i : Int) p0 p1 p2 = some ((mendC (fillC l.length (eraseAt l a b p0 p1 p2))).map toR)
 | 0, i, k + 1, hi, hk => by
  obtain rfl : i = l.length := by omega
  rw [prolepsisref06_Erase.l0, if_neg (by rw [List.length_map]; omega), rMend_ok _ (by rw [fill_len]; omega) k (by rw [fill_len]; omega), Option.bind_some]
 | d + 1, i, k + 1, hi, hk => by
  have hil : i < l.length := by omega
  have ih := rErase_l l hl a b p0 p1 p2 d (i + 1) k (by omega) (by omega)
  have hcast : wrap64 ((i : Int) + 1) = ((i + 1 : Nat) : Int) := by rw [w64 (by omega) (by omega), cast1]
  rw [prolepsisref06_Erase.l0, if_pos (by rw [List.length_map]; omega), if_pos (by omega)]
  rw [fill_snoc, List.map_append] at ih
  by_cases h1 : (i : Int) ≥ a
  ·rw [if_pos h1]
   by_cases h2 : (i : Int) < b
   ·have he : eraseAt l a b p0 p1 p2 i = blankP p0 p1 p2 := by unfold eraseAt; rw [if_pos ⟨h1, h2⟩]
    rw [he] at ih
    rw [if_pos h2]
    unfold prolepsisref05_Blank.f
    rw [Option.bind_some, if_pos (by rw [List.length_map, fill_len]; omega), hcast]
    exact ih
   ·have he : eraseAt l a b p0 p1 p2 i = rd_T40 l (i : Int) := by unfold eraseAt; rw [if_neg (fun h => h2 h.2)]
    rw [he] at ih
    rw [if_neg h2, if_pos (by rw [List.length_map, fill_len]; omega), hcast, rd_R l i hil]
    exact ih
  ·have he : eraseAt l a b p0 p1 p2 i = rd_T40 l (i : Int) := by unfold eraseAt; rw [if_neg (fun h => h1 h.1)]
   rw [he] at ih
   rw [if_neg h1, if_pos (by rw [List.length_map, fill_len]; omega), hcast, rd_R l i hil]
   exact ih
theorem clamp_val (x : Int) (n : Nat) : ((clamp x n : Nat) : Int) = (if x < 0 then (0 : Int) else if (n : Int) < x then (n : Int) else x) := by
 rw [← (clamp_eq x n).1]; unfold mn mx; repeat' split
 all_goals omega
theorem erase_fill (l : List CS) (a b p0 p1 p2 : Int) : fillC l.length (eraseAt l a b p0 p1 p2) = laidC l (clamp a l.length) (List.replicate (clamp b l.length - clamp a l.length) (blankP p0 p1 p2)) := by
 have ca := clamp_val a l.length
 have cb := clamp_val b l.length
 have la := (clamp_eq a l.length).2
 have lb := (clamp_eq b l.length).2
 refine fill_eq fun j => ?_
 rw [laidC_get _ _ _ (by rw [List.length_replicate]; omega), List.length_replicate]
 unfold eraseAt
 by_cases hj : j < l.length
 ·rw [if_pos hj, rd_cs l j hj, List.getElem?_eq_getElem hj]
  by_cases h1 : j < clamp a l.length
  ·rw [if_pos h1, if_neg (by intro h; split at ca <;> (try split at ca) <;> omega)]
  ·rw [if_neg h1]
   by_cases h2 : j < clamp a l.length + (clamp b l.length - clamp a l.length)
   ·rw [if_pos h2, if_pos (by constructor <;> (split at ca <;> (try split at ca) <;> split at cb <;> (try split at cb) <;> omega))]
    rw [List.getElem?_replicate, if_pos (by omega)]
   ·rw [if_neg h2, if_neg (by intro h; split at ca <;> (try split at ca) <;> split at cb <;> (try split at cb) <;> omega)]
 ·rw [if_neg hj, if_neg (by omega), if_neg (by omega), List.getElem?_eq_none (by omega)]
theorem rErase_ok (l : List CS) (hl : l.length ≤ 100000) (a b p0 p1 p2 : Int) (k : Nat) (hk : 2 * l.length + 2 < k) : prolepsisref06_Erase.f k (l.map toR) a b p0 p1 p2 = some ((eraseC l a b p0 p1 p2).map toR) := by
 unfold prolepsisref06_Erase.f eraseC
 rw [← erase_fill]
 exact rErase_l l hl a b p0 p1 p2 l.length 0 k (by omega) (by omega)
theorem rlen_ok (n : Int) : prolepsisref06_length.f n = some ((lenC n : Nat) : Int) := by
 rw [← (lenC_eq n).1]
 unfold prolepsisref06_length.f mn mx
 repeat' split
 all_goals (first | rfl | (congr 1; omega) | (exfalso; omega))
def fitAt (l : List CS) (j : Nat) : CS := if (j : Int) < (l.length : Int) then rd_T40 l (j : Int) else blankP 0 0 0
theorem rFit_l (l : List CS) (hl : l.length ≤ 100000) (n : Int) : ∀ (d i k : Nat), i + d = lenC n → d + 600 < k → prolepsisref06_Fit.l0 k (l.map toR) n ((fillC i (fitAt l)).map toR) (i : Int) = some ((mendC (fillC (lenC n) (fitAt l))).map toR)
 | 0, i, k + 1, hi, hk => by
  have hn := (lenC_eq n).2
  obtain rfl : i = lenC n := by omega
  rw [prolepsisref06_Fit.l0, rlen_ok, Option.bind_some, if_neg (by omega), rMend_ok _ (by rw [fill_len]; omega) k (by rw [fill_len]; omega), Option.bind_some]
 | d + 1, i, k + 1, hi, hk => by
  have hn := (lenC_eq n).2
  have ih := rFit_l l hl n d (i + 1) k (by omega) (by omega)
  have hcast : wrap64 ((i : Int) + 1) = ((i + 1 : Nat) : Int) := by rw [w64 (by omega) (by omega), cast1]
  rw [fill_snoc, List.map_append] at ih
  rw [prolepsisref06_Fit.l0, rlen_ok, Option.bind_some, if_pos (by omega)]
  unfold prolepsisref05_Blank.f
  rw [Option.bind_some, List.length_map]
  by_cases h : (i : Int) < (l.length : Int)
  ·have he : fitAt l i = rd_T40 l (i : Int) := by unfold fitAt; rw [if_pos h]
   rw [he] at ih
   rw [if_pos h, if_pos (by omega), if_pos (by rw [List.length_map, fill_len]; omega), hcast, rd_R l i (by omega)]
   exact ih
  ·have he : fitAt l i = blankP 0 0 0 := by unfold fitAt; rw [if_neg h]
   rw [he] at ih
   rw [if_neg h, if_pos (by rw [List.length_map, fill_len]; omega), hcast]
   exact ih
theorem fit_fill (l : List CS) (n : Int) : fillC (lenC n) (fitAt l) = (l ++ List.replicate (lenC n - l.length) (blankP 0 0 0)).take (lenC n) := by
 refine fill_eq fun j => ?_
 unfold fitAt
 by_cases hj : j < lenC n
 ·rw [if_pos hj, List.getElem?_take, if_pos hj]
  by_cases h : (j : Int) < (l.length : Int)
  ·rw [if_pos h, List.getElem?_append_left (by omega), rd_cs l j (by omega), List.getElem?_eq_getElem (by omega)]
  ·rw [if_neg h, List.getElem?_append_right (by omega), List.getElem?_replicate, if_pos (by omega)]
 ·rw [if_neg hj, List.getElem?_take, if_neg hj]
theorem rFit_ok (l : List CS) (hl : l.length ≤ 100000) (n : Int) (k : Nat) (hk : 1200 < k) : prolepsisref06_Fit.f k (l.map toR) n = some ((fitC l n).map toR) := by
 have hn := (lenC_eq n).2
 unfold prolepsisref06_Fit.f fitC
 rw [← fit_fill]
 exact rFit_l l hl n (lenC n) 0 k (by omega) (by omega)
theorem rNew_l (n : Int) : ∀ (d i k : Nat), i + d = lenC n → d < k → prolepsisref06_New.l0 k n ((List.replicate i (blankP 0 0 0)).map toR) (i : Int) = some ((List.replicate (lenC n) (blankP 0 0 0)).map toR)
 | 0, i, k + 1, hi, hk => by
  obtain rfl : i = lenC n := by omega
  rw [prolepsisref06_New.l0, rlen_ok, Option.bind_some, if_neg (by omega)]
 | d + 1, i, k + 1, hi, hk => by
  have hn := (lenC_eq n).2
  have ih := rNew_l n d (i + 1) k (by omega) (by omega)
  rw [List.replicate_succ', List.map_append] at ih
  rw [prolepsisref06_New.l0, rlen_ok, Option.bind_some, if_pos (by omega)]
  unfold prolepsisref05_Blank.f
  rw [Option.bind_some, if_pos (by rw [List.length_map, List.length_replicate]; omega), w64 (by omega) (by omega), cast1]
  exact ih
theorem rNew_ok (n : Int) (k : Nat) (hk : 600 < k) : prolepsisref06_New.f k n = some ((List.replicate (lenC n) (blankP 0 0 0)).map toR) := by
 have hn := (lenC_eq n).2
 unfold prolepsisref06_New.f
 exact rNew_l n (lenC n) 0 k (by omega) (by omega)
def putAt (l : List CS) (i : Nat) (c : CS) (j : Nat) : CS := if j = i then c else if j = i + 1 ∧ c.f2 = 2 then restS c else rd_T40 l (j : Int)
theorem put_fill (l : List CS) (i : Nat) (c : CS) (hc : c.f2 = 1 ∨ c.f2 = 2) (hi : (i : Int) + c.f2 ≤ l.length) : fillC l.length (putAt l i c) = laidC l i (if c.f2 = 2 then [c, restS c] else [c]) := by
 refine fill_eq fun j => ?_
 unfold putAt
 by_cases h2 : c.f2 = 2
 ·rw [if_pos h2, laidC_get _ _ _ (by simp; omega)]
  simp only [h2, and_true, List.length_cons, List.length_nil]
  by_cases hj : j < l.length
  ·rw [if_pos hj, rd_cs l j hj, List.getElem?_eq_getElem hj]
   by_cases a1 : j = i
   ·subst a1; simp
   ·by_cases a2 : j = i + 1
    ·subst a2
     rw [if_neg a1, if_pos rfl, if_neg (by omega), if_pos (by omega)]
     simp
    ·rw [if_neg a1, if_neg a2]
     by_cases a3 : j < i
     ·rw [if_pos a3]
     ·rw [if_neg a3, if_neg (by omega)]
  ·rw [if_neg hj, if_neg (by omega), if_neg (by omega), List.getElem?_eq_none (by omega)]
 ·rw [if_neg h2, laidC_get _ _ _ (by simp; omega)]
  simp only [h2, and_false, if_false, List.length_cons, List.length_nil]
  by_cases hj : j < l.length
  ·rw [if_pos hj, rd_cs l j hj, List.getElem?_eq_getElem hj]
   by_cases a1 : j = i
   ·subst a1; simp
   ·rw [if_neg a1]
    by_cases a3 : j < i
    ·rw [if_pos a3]
    ·rw [if_neg a3, if_neg (by omega)]
  ·rw [if_neg hj, if_neg (by omega), if_neg (by omega), List.getElem?_eq_none (by omega)]
theorem rMark1 (c0 c1 c2 c3 c4 c5 c6 r : Int) (k : Nat) (hk : 30 ≤ k) : prolepsisref05_Mark.f k c0 c1 c2 c3 c4 c5 c6 r = some (markC c0 c1 c2 c3 c4 c5 c6 r) := by
 obtain ⟨k, rfl⟩ := kp (show 0 < k by omega)
 have j : ∀ b, prolepsisref05_Mark.j0 (k + 1) r b c0 c1 c2 c3 c4 c5 c6 = some (if b = true then (c0, c1, c2, c3, c4, c5, c6, false) else if c1 = 0 then (c0, r, c2, c3, c4, c5, c6, true) else if c2 = 0 then (c0, c1, r, c3, c4, c5, c6, true) else (c0, c1, c2, c3, c4, c5, c6, false)) := by
  intro b
  rw [prolepsisref05_Mark.j0]
  repeat' split
  all_goals rfl
 unfold prolepsisref05_Mark.f markC
 rw [rOf r (k + 1) (by omega)]
 simp only [Option.bind_some, j]
 by_cases h : wOf r = 0 <;> by_cases h1 : c3 = 1 <;> by_cases h2 : c3 = 2 <;> simp [h, h1, h2]
theorem w32_mend {l : List CS} (h : ∀ x ∈ l, W32 x) : ∀ x ∈ mendC l, W32 x := by
 intro x hx
 unfold mendC at hx
 rw [List.mem_mapIdx] at hx
 obtain ⟨i, hi, rfl⟩ := hx
 split
 ·exact ⟨by show (-2147483648 : Int) ≤ 32 ∧ (32 : Int) ≤ _; omega, by show (-2147483648 : Int) ≤ 0 ∧ (0 : Int) ≤ _; omega, by show (-2147483648 : Int) ≤ 0 ∧ (0 : Int) ≤ _; omega, by show (0 : Int) ≤ 1 ∧ (1 : Int) ≤ _; omega⟩
 ·exact h _ (List.getElem_mem hi)
theorem w32_blankP (p0 p1 p2 : Int) : W32 (blankP p0 p1 p2) := ⟨by show (-2147483648 : Int) ≤ 32 ∧ (32 : Int) ≤ _; omega, by show (-2147483648 : Int) ≤ 0 ∧ (0 : Int) ≤ _; omega, by show (-2147483648 : Int) ≤ 0 ∧ (0 : Int) ≤ _; omega, by show (0 : Int) ≤ 1 ∧ (1 : Int) ≤ _; omega⟩
theorem w32_rest (c : CS) : W32 (restS c) := ⟨by show (-2147483648 : Int) ≤ 0 ∧ (0 : Int) ≤ _; omega, by show (-2147483648 : Int) ≤ 0 ∧ (0 : Int) ≤ _; omega, by show (-2147483648 : Int) ≤ 0 ∧ (0 : Int) ≤ _; omega, by show (0 : Int) ≤ 0 ∧ (0 : Int) ≤ _; omega⟩
theorem mem_laid' {l : List CS} {i : Nat} {l2 : List CS} {y : CS} (h : y ∈ laidC l i l2) : y ∈ l ∨ y ∈ l2 := by
 unfold laidC at h
 rcases List.mem_append.1 h with h | h
 ·rcases List.mem_append.1 h with h | h
  ·exact .inl (List.mem_of_mem_take h)
  ·exact .inr h
 ·exact .inl (List.mem_of_mem_drop h)
theorem w32_put {l : List CS} (h : ∀ x ∈ l, W32 x) (i : Int) {c : CS} (hc : W32 c) : ∀ x ∈ putC l i c, W32 x := by
 unfold putC
 split
 ·refine w32_mend fun x hx => ?_
  rcases mem_laid' hx with hx | hx
  ·exact h x hx
  ·split at hx
   ·simp at hx
    rcases hx with rfl | rfl
    ·exact hc
    ·exact w32_rest c
   ·simp at hx; rw [hx]; exact hc
 ·exact h
theorem w32_erase {l : List CS} (h : ∀ x ∈ l, W32 x) (a b p0 p1 p2 : Int) : ∀ x ∈ eraseC l a b p0 p1 p2, W32 x := by
 unfold eraseC
 refine w32_mend fun x hx => ?_
 rcases mem_laid' hx with hx | hx
 ·exact h x hx
 ·rw [(List.mem_replicate.1 hx).2]; exact w32_blankP _ _ _
theorem w32_fit {l : List CS} (h : ∀ x ∈ l, W32 x) (n : Int) : ∀ x ∈ fitC l n, W32 x := by
 unfold fitC
 refine w32_mend fun x hx => ?_
 rcases List.mem_append.1 (List.mem_of_mem_take hx) with hx | hx
 ·exact h x hx
 ·rw [(List.mem_replicate.1 hx).2]; exact w32_blankP _ _ _
theorem w32_markS {x : CS} (h : W32 x) {r : Int} (hr : -2147483648 ≤ r ∧ r ≤ 2147483647) : W32 (markS x r) := by
 obtain ⟨h0, h1, h2, h3⟩ := h
 unfold markS markC
 repeat' split
 all_goals exact ⟨by assumption, by assumption, by assumption, by assumption⟩
theorem w32_mark {l : List CS} (h : ∀ x ∈ l, W32 x) (i : Int) {r : Int} (hr : -2147483648 ≤ r ∧ r ≤ 2147483647) : ∀ x ∈ markL l i r, W32 x := by
 unfold markL
 split
 ·rename_i hin
  intro x hx
  rcases List.mem_or_eq_of_mem_set hx with hx | rfl
  ·exact h x hx
  ·have hm := markAt_le l i.toNat
   exact w32_markS (h _ (rd_mem l _ (by omega))) hr
 ·exact h
theorem beq_flip (a b : Int) : (a == b) = decide (b = a) := by
 rw [Bool.eq_iff_iff]; simp only [beq_iff_eq, decide_eq_true_eq]; exact ⟨Eq.symm, Eq.symm⟩
theorem rRightL_l (l : List CS) (h8 : ∀ x ∈ l, W32 x) (hl : l.length ≤ 1000000) : ∀ (d i k : Nat), i + d = l.length → 2 * d + 40 < k → prolepsisref06_Right.l0 k (l.map toR) (i : Int) = some (rightFrom l d i) := by
 intro d
 induction d with
 | zero =>
  intro i k hi hk
  obtain ⟨k, rfl⟩ := kp hk
  rw [prolepsisref06_Right.l0, List.length_map, if_neg (by omega)]
  rfl
 | succ d ih =>
  intro i k hi hk
  obtain ⟨k, rfl⟩ : ∃ m, k = m + 2 := ⟨k - 2, by omega⟩
  have hil : i < l.length := by omega
  have hg := rd_get l i hil
  have hx := (h8 _ (rd_mem l i hil)).2.2.2
  have hR := rd_R l i hil
  rw [prolepsisref06_Right.l0, List.length_map, if_pos (by omega), if_pos (by omega), hR, rightFrom]
  unfold okR
  rw [hg]
  dsimp only
  generalize hX : rd_T40 l (i : Int) = x at *
  show (prolepsisref05_Right.f (k + 1) x.f0 x.f1.f0 x.f1.f1 x.f2 x.f3.f0 x.f3.f1 x.f3.f2).bind _ = _
  rw [rRight_ok _ _ _ _ _ _ _ hx _ (by omega)]
  simp only [Option.bind_some]
  have hr : rightC x.f0 x.f1.f0 x.f1.f1 x.f2 x.f3.f0 x.f3.f1 x.f3.f2 = rightS x := rfl
  rw [hr]
  cases hR' : rightS x
  ·rw [if_neg (by simp), prolepsisref06_Right.j1, if_pos rfl]; simp
  ·rw [if_pos rfl, ralone_ok l i hil hl]
   simp only [Option.bind_some]
   rw [prolepsisref06_Right.j1, List.length_map, hR]
   cases hA : aloneN l i
   ·rw [if_neg (by simp), if_pos (by omega), if_pos (by omega), w64 (x := (i : Int) + 1) (by omega) (by omega), w64 (x := (i : Int) - 1) (by omega) (by omega), cast1, ih (i + 1) k (by omega) (by omega)]
    show (if x.f2 = 0 then _ else _) = _
    by_cases h0 : x.f2 = 0
    ·have hi0 : 0 < i := by
      by_cases e : 0 < i
      ·exact e
      ·obtain rfl : i = 0 := by omega
       unfold aloneN at hA
       have : hasW l 0 0 = true := by unfold hasW; rw [hg]; simp [h0]
       rw [this] at hA
       simp at hA
     rw [if_pos h0, if_pos (by omega), if_pos (by omega)]
     have hg1 := rd_get l (i - 1) (by omega)
     rw [hg1, show (i : Int) - 1 = ((i - 1 : Nat) : Int) by omega, rd_R l (i - 1) (by omega)]
     generalize rd_T40 l ((i - 1 : Nat) : Int) = y
     unfold penEq toR
     dsimp only
     have c0 : (x.f3.f0 == y.f3.f0) = decide (y.f3.f0 = x.f3.f0) := beq_flip _ _
     have c1 : (x.f3.f1 == y.f3.f1) = decide (y.f3.f1 = x.f3.f1) := beq_flip _ _
     have c2 : (x.f3.f2 == y.f3.f2) = decide (y.f3.f2 = x.f3.f2) := beq_flip _ _
     rw [c0, c1, c2]
     by_cases e0 : y.f3.f0 = x.f3.f0 <;> by_cases e1 : y.f3.f1 = x.f3.f1 <;> by_cases e2 : y.f3.f2 = x.f3.f2 <;> simp [e0, e1, e2, h0]
    ·rw [if_neg h0]
     simp [h0]
   ·rw [if_pos rfl]; simp
theorem rRightL_ok (l : List CS) (h8 : ∀ x ∈ l, W32 x) (hl : l.length ≤ 1000000) (k : Nat) (hk : 2 * l.length + 40 < k) : prolepsisref06_Right.f k (l.map toR) = some (rightL l) := by
 unfold prolepsisref06_Right.f rightL
 exact rRightL_l l h8 hl l.length 0 k (by omega) hk
structure GV where
 L : List (List CS)
 cols : Nat
 row : Int
 col : Int
def gHas (g : GV) (r : Int) : Bool := decide (0 ≤ r) && decide (r < g.L.length)
def gLn (g : GV) (r : Int) : List CS := g.L.getD r.toNat []
def gSet (g : GV) (r : Int) (l : List CS) : GV := { g with L := g.L.set r.toNat l }
def gPut (g : GV) (r c : Int) (x : CS) : GV × Bool := if gHas g r = true then (gSet g r (putC (gLn g r) c x), putOk (gLn g r) c x) else (g, false)
def gMark (g : GV) (r c m : Int) : GV × Bool := if gHas g r = true then (gSet g r (markL (gLn g r) c m), markOk (gLn g r) c m) else (g, false)
def gErase (g : GV) (r a b p0 p1 p2 : Int) : GV := if gHas g r = true ∧ penR p0 p1 p2 = true then gSet g r (eraseC (gLn g r) a b p0 p1 p2) else g
def gLay (g : GV) (r : Int) (l : List CS) : GV × Bool := if gHas g r = true ∧ l.length = g.cols ∧ rightL l = true then (gSet g r l, true) else (g, false)
def gBring (x : Int) (n : Nat) : Int := mn (mx x 0) ((n : Int) - 1)
def gMove (g : GV) (r c : Int) : GV := { g with row := gBring r g.L.length, col := gBring c g.cols }
def gBlank (cols : Nat) (p0 p1 p2 : Int) : List CS := eraseC (List.replicate (lenC cols) (blankP 0 0 0)) 0 cols p0 p1 p2
def gShift (n : Int) (rows : Nat) : Int := mn (mx n (-(rows : Int))) rows
def gRoll (L : List (List CS)) (k : Int) (b : List CS) : List (List CS) := if 0 ≤ k then L.drop k.toNat ++ List.replicate k.toNat b else List.replicate (-k).toNat b ++ L.take (L.length - (-k).toNat)
def gScroll (g : GV) (n p0 p1 p2 : Int) : GV := if penR p0 p1 p2 = true then { g with L := gRoll g.L (gShift n g.L.length) (gBlank g.cols p0 p1 p2) } else g
def gSize (rows cols : Int) : Bool := decide (1 ≤ rows ∧ rows ≤ 512) && decide (1 ≤ cols ∧ cols ≤ 512)
def gNew (rows cols : Int) : GV := ⟨List.replicate rows.toNat (List.replicate (lenC cols) (blankP 0 0 0)), cols.toNat, 0, 0⟩
def gFit (g : GV) (rows cols : Int) : GV := gMove ⟨(g.L.take rows.toNat).map (fun l => fitC l cols) ++ List.replicate (rows.toNat - g.L.length) (List.replicate (lenC cols) (blankP 0 0 0)), cols.toNat, 0, 0⟩ g.row g.col
structure GV.ok (g : GV) : Prop where
 r1 : 1 ≤ g.L.length
 r2 : g.L.length ≤ 512
 c1 : 1 ≤ g.cols
 c2 : g.cols ≤ 512
 len : ∀ l ∈ g.L, l.length = g.cols
 w32 : ∀ l ∈ g.L, ∀ x ∈ l, W32 x
 rt : ∀ l ∈ g.L, rightL l = true
 row : 0 ≤ g.row ∧ g.row < g.L.length
 col : 0 ≤ g.col ∧ g.col < g.cols
theorem gLn_mem {g : GV} {r : Int} (h : gHas g r = true) : gLn g r ∈ g.L := by
 simp only [gHas, Bool.and_eq_true, decide_eq_true_eq] at h
 unfold gLn
 rw [List.getD_eq_getElem?_getD, List.getElem?_eq_getElem (by omega), Option.getD_some]
 exact List.getElem_mem _
theorem gSet_ok {g : GV} (h : g.ok) {r : Int} {l : List CS} (hl : l.length = g.cols) (hw : ∀ x ∈ l, W32 x) (hr : rightL l = true) : (gSet g r l).ok := by
 have hm : ∀ k ∈ g.L.set r.toNat l, k ∈ g.L ∨ k = l := fun k hk => List.mem_or_eq_of_mem_set hk
 refine ⟨by simpa [gSet] using h.r1, by simpa [gSet] using h.r2, h.c1, h.c2, fun k hk => (hm k hk).elim (h.len k) (fun e => by rw [e]; exact hl), fun k hk => (hm k hk).elim (h.w32 k) (fun e => by rw [e]; exact hw), fun k hk => (hm k hk).elim (h.rt k) (fun e => by rw [e]; exact hr), by simpa [gSet] using h.row, h.col⟩
theorem mark_no {l : List CS} {i r : Int} (h : markOk l i r = false) : markL l i r = l := by
 unfold markOk at h
 unfold markL
 split
 ·rename_i hin
  rw [decide_eq_true hin, Bool.true_and] at h
  have hm := markAt_le l i.toNat
  have hx : markS (rd_T40 l ((markAt l i.toNat : Nat) : Int)) r = rd_T40 l ((markAt l i.toNat : Nat) : Int) := by
   revert h
   generalize rd_T40 l ((markAt l i.toNat : Nat) : Int) = x
   unfold markB markS markC
   by_cases c : wOf r = 0 ∧ (x.f2 = 1 ∨ x.f2 = 2)
   ·rw [if_pos c]
    by_cases d : x.f1.f0 = 0
    ·rw [if_pos d]; intro h; cases h
    ·rw [if_neg d]
     by_cases e : x.f1.f1 = 0
     ·rw [if_pos e]; intro h; cases h
     ·rw [if_neg e]; intro _; rfl
   ·rw [if_neg c]; intro _; rfl
  rw [hx]
  refine List.ext_getElem? fun j => ?_
  rw [List.getElem?_set]
  split
  ·rename_i hj
   subst hj
   rw [if_pos (by omega), rd_get l _ (by omega)]
  ·rfl
 ·rfl
theorem put_no {l : List CS} {i : Int} {c : CS} (h : putOk l i c = false) : putC l i c = l := by
 unfold putC; rw [h]; simp
theorem right_nil : rightL [] = true := rfl
theorem alone_blanks (n i : Nat) : aloneN (List.replicate n (blankP 0 0 0)) i = false := by
 rcases Nat.lt_or_ge i n with h | h
 ·exact alone_one (x := blankP 0 0 0) (by rw [List.getElem?_replicate, if_pos h]) rfl
 ·exact alone_none (by rw [List.length_replicate]; exact h)
theorem mend_blanks (n : Nat) (h : n ≤ 1000000) : mendC (List.replicate n (blankP 0 0 0)) = List.replicate n (blankP 0 0 0) := mend_id _ (by rw [List.length_replicate]; exact h) (alone_blanks n)
theorem right_blanks (n : Nat) (h : n ≤ 512) : rightL (List.replicate n (blankP 0 0 0)) = true := by
 have hf := right_fit right_nil (n : Int)
 have hl : lenC (n : Int) = n := by unfold lenC mn mx; split <;> split <;> omega
 unfold fitC at hf
 rw [hl, List.nil_append, List.length_nil, Nat.sub_zero, List.take_of_length_le (by rw [List.length_replicate]; exact Nat.le_refl _), mend_blanks n (by omega)] at hf
 exact hf
theorem lenC_id {n : Int} (h : 1 ≤ n ∧ n ≤ 512) : lenC n = n.toNat := by unfold lenC mn mx; split <;> split <;> omega
theorem bring_in (x : Int) {n : Nat} (h : 1 ≤ n) : 0 ≤ gBring x n ∧ gBring x n < n := by unfold gBring mn mx; split <;> split <;> omega
theorem gNew_ok {rows cols : Int} (h : gSize rows cols = true) : (gNew rows cols).ok := by
 unfold gSize at h
 rw [Bool.and_eq_true, decide_eq_true_eq, decide_eq_true_eq] at h
 obtain ⟨h1, h2⟩ := h
 have hm : ∀ l ∈ (gNew rows cols).L, l = List.replicate (lenC cols) (blankP 0 0 0) := fun l hl => (List.mem_replicate.1 hl).2
 have hL : (gNew rows cols).L.length = rows.toNat := List.length_replicate ..
 refine ⟨by omega, by omega, by show 1 ≤ cols.toNat; omega, by show cols.toNat ≤ 512; omega, fun l hl => by rw [hm l hl, List.length_replicate, lenC_id h2]; rfl, fun l hl x hx => ?_, fun l hl => ?_, ⟨Int.le_refl _, ?_⟩, ⟨Int.le_refl _, ?_⟩⟩
 ·rw [hm l hl] at hx; rw [(List.mem_replicate.1 hx).2]; exact w32_blankP _ _ _
 ·rw [hm l hl]; exact right_blanks _ (lenC_eq cols).2
 ·rw [hL]; show (0 : Int) < _; omega
 ·show (0 : Int) < (cols.toNat : Int); omega
theorem gMove_ok {g : GV} (h : g.ok) (r c : Int) : (gMove g r c).ok := by
 have h1 := bring_in r h.r1
 have h2 := bring_in c h.c1
 exact ⟨h.r1, h.r2, h.c1, h.c2, h.len, h.w32, h.rt, h1, h2⟩
theorem gPut_ok {g : GV} (h : g.ok) (r c : Int) {x : CS} (hx : W32 x) : (gPut g r c x).1.ok := by
 unfold gPut
 split
 ·rename_i hr
  have hm := gLn_mem hr
  have hl := h.len _ hm
  exact gSet_ok h (by rw [put_len _ _ _ hx.2.2.2.1]; exact hl) (w32_put (h.w32 _ hm) c hx) (right_put (h.rt _ hm) (by have := h.c2; omega) c x hx.2.2.2.1)
 ·exact h
theorem gMark_ok {g : GV} (h : g.ok) (r c : Int) {m : Int} (hm' : -2147483648 ≤ m ∧ m ≤ 2147483647) : (gMark g r c m).1.ok := by
 unfold gMark
 split
 ·rename_i hr
  have hm := gLn_mem hr
  have hl := h.len _ hm
  exact gSet_ok h (by rw [markL_len]; exact hl) (w32_mark (h.w32 _ hm) c hm') (right_mark (h.rt _ hm) (by have := h.c2; omega) c m)
 ·exact h
theorem gErase_ok {g : GV} (h : g.ok) (r a b p0 p1 p2 : Int) : (gErase g r a b p0 p1 p2).ok := by
 unfold gErase
 split
 ·rename_i hr
  have hm := gLn_mem hr.1
  have hl := h.len _ hm
  exact gSet_ok h (by rw [erase_len]; exact hl) (w32_erase (h.w32 _ hm) a b p0 p1 p2) (right_erase (h.rt _ hm) (by have := h.c2; omega) a b p0 p1 p2 hr.2)
 ·exact h
theorem gLay_ok {g : GV} (h : g.ok) (r : Int) {l : List CS} (hw : ∀ x ∈ l, W32 x) : (gLay g r l).1.ok := by
 unfold gLay
 split
 ·rename_i hr
  exact gSet_ok h hr.2.1 hw hr.2.2
 ·exact h
theorem gShift_in (n : Int) (k : Nat) : -(k : Int) ≤ gShift n k ∧ gShift n k ≤ k := by unfold gShift mn mx; split <;> split <;> omega
theorem gRoll_len {L : List (List CS)} {k : Int} (b : List CS) (h : -(L.length : Int) ≤ k ∧ k ≤ L.length) : (gRoll L k b).length = L.length := by
 unfold gRoll
 split
 ·rw [List.length_append, List.length_drop, List.length_replicate]; omega
 ·rw [List.length_append, List.length_take, List.length_replicate]; omega
theorem gRoll_mem {L : List (List CS)} {k : Int} {b l : List CS} (h : l ∈ gRoll L k b) : l ∈ L ∨ l = b := by
 unfold gRoll at h
 split at h
 ·rcases List.mem_append.1 h with h | h
  ·exact .inl (List.mem_of_mem_drop h)
  ·exact .inr (List.mem_replicate.1 h).2
 ·rcases List.mem_append.1 h with h | h
  ·exact .inr (List.mem_replicate.1 h).2
  ·exact .inl (List.mem_of_mem_take h)
theorem gBlank_len {cols : Nat} (h : cols ≤ 512) (p0 p1 p2 : Int) : (gBlank cols p0 p1 p2).length = cols := by
 unfold gBlank
 rw [erase_len, List.length_replicate]
 unfold lenC mn mx; split <;> split <;> omega
theorem gScroll_ok {g : GV} (h : g.ok) (n p0 p1 p2 : Int) : (gScroll g n p0 p1 p2).ok := by
 unfold gScroll
 split
 ·rename_i hp
  have hs := gShift_in n g.L.length
  have hl := gRoll_len (gBlank g.cols p0 p1 p2) hs
  have hle := (lenC_eq (g.cols : Int)).2
  refine ⟨by show 1 ≤ (gRoll _ _ _).length; rw [hl]; exact h.r1, by show (gRoll _ _ _).length ≤ 512; rw [hl]; exact h.r2, h.c1, h.c2, fun l hm => ?_, fun l hm => ?_, fun l hm => ?_, by show 0 ≤ g.row ∧ g.row < ((gRoll _ _ _).length : Int); rw [hl]; exact h.row, h.col⟩
  ·rcases gRoll_mem hm with hm | rfl
   ·exact h.len l hm
   ·exact gBlank_len h.c2 _ _ _
  ·rcases gRoll_mem hm with hm | rfl
   ·exact h.w32 l hm
   ·exact w32_erase (fun x hx => by rw [(List.mem_replicate.1 hx).2]; exact w32_blankP _ _ _) _ _ _ _ _
  ·rcases gRoll_mem hm with hm | rfl
   ·exact h.rt l hm
   ·exact right_erase (right_blanks _ hle) (by rw [List.length_replicate]; omega) _ _ _ _ _ hp
 ·exact h
end Go.Proofs.YtblcmcdifgclcaaGreat.Grd
