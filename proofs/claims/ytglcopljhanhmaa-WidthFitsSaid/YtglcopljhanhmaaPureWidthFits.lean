/- WidthFits: how many of any runes have room is the document's; more room is no less. No condition. -/
import Derived.Test.YtglcopljhanhmaaPWidthFitsx2
import Derived.OpenShut
namespace Go.Proofs.Ytglcopljhanhmaa.Pure
open Go.RowKit Go.Proofs.Ytglcopljhanhmaa.PWidthFits Go.Proofs.YtglcopljhanhmaaW.PrintWords Go.Proofs.YtglcopljhanhmaaW.PrintLast Go.Proofs.YtglcopljhanhmaaW.PrintMore
theorem w64 {x : Int} (h0 : -9223372036854775808 ≤ x) (h1 : x < 9223372036854775808) : wrap64 x = x := by unfold wrap64; omega
theorem kp {d k : Nat} (h : d < k) : ∃ m, k = m + 1 := ⟨k - 1, by omega⟩
theorem drop_rd {xs : List Int} {i : Nat} (h : i < xs.length) : xs.drop i = rd xs (i : Int) :: xs.drop (i + 1) := by
  rw [List.drop_eq_getElem_cons h]
  simp [rd, List.getD_eq_getElem?_getD, h]
theorem rd_in {xs : List Int} {i : Nat} (h : i < xs.length) : rd xs (i : Int) ∈ xs := by
  simp [rd, List.getD_eq_getElem?_getD, h]
theorem cast1 (i : Nat) : ((i : Int) + 1) = ((i + 1 : Nat) : Int) := by omega
theorem wOf_bounds (r : Int) : -1 ≤ wOf r ∧ wOf r ≤ 2 := by unfold wOf; split <;> (try split) <;> (try split) <;> omega
theorem wPos_bounds (r : Int) : 0 ≤ wPos r ∧ wPos r ≤ 2 := by have := wOf_bounds r; unfold wPos; split <;> omega
theorem mx_pos (r : Int) : mx 0 (wOf r) = wPos r := by unfold mx wPos; by_cases h : 0 < wOf r <;> simp [h]
theorem wTotal_cons (r : Int) (t : List Int) : wTotal (r :: t) = wPos r + wTotal t := by simp [wTotal]
theorem wTotal_nil : wTotal [] = 0 := rfl
theorem wTotal_append (a b : List Int) : wTotal (a ++ b) = wTotal a + wTotal b := by simp [wTotal]
theorem wTotal_bounds (l : List Int) : 0 ≤ wTotal l ∧ wTotal l ≤ 2 * l.length := by
  induction l with
  | nil => simp [wTotal_nil]
  | cons r t ih => have := wPos_bounds r; rw [wTotal_cons, List.length_cons]; omega
theorem Total_l (l : List Int) : ∀ (d i : Nat) (n : Int) (k : Nat), i + d = l.length → d < k → 0 ≤ n → n + 2 * d ≤ 4611686018427387904 → l.length ≤ 4611686018427387904 →
    width_Total.l0 k n l (l.length : Int) (i : Int) = some (n + wTotal (l.drop i)) := by
  intro d
  induction d with
  | zero =>
    intro i n k hi hk h0 h1 hl
    obtain ⟨k, rfl⟩ := kp hk
    rw [width_Total.l0, if_neg (by omega), List.drop_eq_nil_of_le (by omega)]
    simp [wTotal_nil]
  | succ d ih =>
    intro i n k hi hk h0 h1 hl
    obtain ⟨k, rfl⟩ := kp hk
    rw [width_Total.l0, if_pos (by omega), if_pos (by omega), if_pos (by omega)]
    have hp := wPos_bounds (rd l i)
    show width_Total.l0 k (wrap64 (n + mx 0 (wOf (rd l i)))) l l.length (wrap64 (i + 1)) = _
    rw [mx_pos, w64 (by omega) (by omega), w64 (by omega) (by omega), cast1, ih (i + 1) (n + wPos (rd l i)) k (by omega) (by omega) (by omega) (by omega) hl, drop_rd (show i < l.length by omega), wTotal_cons]
    congr 1; omega
theorem Total_ok (l : List Int) (k : Nat) (hk : l.length < k) (hl : l.length ≤ 1000000) : width_Total.f k l = some (wTotal l) := by
  unfold width_Total.f
  have := Total_l l l.length 0 0 k (by omega) hk (by omega) (by omega) (by omega)
  simpa using this
/-- The clusters of runes. -/
def clusR : List Int → List (List Int)
  | [] => []
  | r :: t => if wOf r < 1 then clusR t else (r :: t.takeWhile (fun x => wOf x == 0)) :: clusR t
theorem set_last {α : Type} (o : List α) (c x : α) : (o ++ [c]).set o.length x = o ++ [x] := by simp
theorem last_L2 (o : List (List Int)) (c : List Int) : rd_L2 (o ++ [c]) (o.length : Int) = c := by simp [rd_L2]
theorem Clus_l (l : List Int) (hl : l.length ≤ 1000000) : ∀ (d i k : Nat), i + d = l.length → d < k →
    (∀ o, o.length + d ≤ 2000000 → width_Clusters.l0 k o false l (l.length : Int) (i : Int) = some (o ++ clusR (l.drop i))) ∧
    (∀ o c, o.length + 1 + d ≤ 2000000 → c.length + d ≤ 2000000 → width_Clusters.l0 k (o ++ [c]) true l (l.length : Int) (i : Int) = some (o ++ [c ++ (l.drop i).takeWhile (fun x => wOf x == 0)] ++ clusR (l.drop i))) := by
  intro d
  induction d with
  | zero =>
    intro i k hi hk
    obtain ⟨k, rfl⟩ := kp hk
    refine ⟨fun o ho => ?_, fun o c ho hc => ?_⟩
    · rw [width_Clusters.l0, if_neg (by omega), List.drop_eq_nil_of_le (by omega)]; simp [clusR]
    · rw [width_Clusters.l0, if_neg (by omega), List.drop_eq_nil_of_le (by omega)]; simp [clusR]
  | succ d ih =>
    intro i k hi hk
    obtain ⟨k, rfl⟩ := kp hk
    obtain ⟨ihf, iht⟩ := ih (i + 1) k (by omega) (by omega)
    have hb := wOf_bounds (rd l i)
    have hd := drop_rd (show i < l.length by omega)
    refine ⟨fun o ho => ?_, fun o c ho hc => ?_⟩
    · rw [width_Clusters.l0, if_pos (by omega), if_pos (by omega), if_pos (by omega), show width_Of.f (rd l i) = some (wOf (rd l i)) from rfl]
      simp only [Option.bind_some]
      rw [w64 (by omega) (by omega), cast1, hd]
      by_cases h1 : wOf (rd l i) < 0
      · rw [if_pos h1, ihf o (by omega), clusR, if_pos (by omega)]
      · rw [if_neg h1]
        by_cases h2 : wOf (rd l i) > 0
        · rw [if_pos h2, if_pos (by omega), iht o [rd l i] (by omega) (by simp; omega), clusR, if_neg (by omega)]
          simp
        · rw [if_neg h2, if_neg (by simp), ihf o (by omega), clusR, if_pos (by omega)]
    · rw [width_Clusters.l0, if_pos (by omega), if_pos (by omega), if_pos (by omega), show width_Of.f (rd l i) = some (wOf (rd l i)) from rfl]
      simp only [Option.bind_some]
      rw [w64 (x := (i : Int) + 1) (by omega) (by omega), cast1, hd]
      by_cases h1 : wOf (rd l i) < 0
      · rw [if_pos h1, ihf (o ++ [c]) (by simp; omega), clusR, if_pos (by omega), List.takeWhile_cons_of_neg (by simp; omega)]
        simp
      · rw [if_neg h1]
        by_cases h2 : wOf (rd l i) > 0
        · rw [if_pos h2, if_pos (by simp; omega), iht (o ++ [c]) [rd l i] (by simp; omega) (by simp; omega), clusR, if_neg (by omega), List.takeWhile_cons_of_neg (by simp; omega)]
          simp
        · have hlen : (((o ++ [c]).length : Int) - 1) = (o.length : Int) := by simp
          rw [if_neg h2, if_pos trivial, hlen, w64 (x := (o.length : Int)) (by omega) (by omega), if_pos (by omega), if_pos (by simp; omega), last_L2, if_pos (by omega), Int.toNat_natCast, set_last,
            iht o (c ++ [rd l i]) (by omega) (by simp; omega), clusR, if_pos (by omega), List.takeWhile_cons_of_pos (by simp; omega)]
          simp
theorem Clus_ok (l : List Int) (k : Nat) (hk : l.length < k) (hl : l.length ≤ 1000000) : width_Clusters.f k l = some (clusR l) := by
  unfold width_Clusters.f
  have := (Clus_l l hl l.length 0 k (by omega) hk).1 [] (by simp; omega)
  simpa using this
theorem known_ok (k : Nat) (hk : 10 < k) : prolepsislaw03_known.f k = some true := by
  unfold prolepsislaw03_known.f
  rw [show width_Of.f 97 = some 1 by decide +kernel, show width_Of.f 12354 = some 2 by decide +kernel, show width_Of.f 769 = some 0 by decide +kernel, show width_Of.f 27 = some (-1) by decide +kernel, Clus_ok _ k (by simp; omega) (by simp)]
  decide +kernel
theorem rScalar (r : Int) : prolepsisref02_Scalar.f r = some (scalarZ r) := by
  unfold prolepsisref02_Scalar.f scalarZ
  by_cases a : 0 ≤ r <;> by_cases b : r ≤ 1114111 <;> by_cases c : r < 55296 <;> by_cases d : 57343 < r <;> simp [*] <;> omega
def flat (p : List (Int × Int)) : List Int := p.flatMap fun x => [x.1, x.2]
theorem flat_len (p : List (Int × Int)) : (flat p).length = 2 * p.length := by
  induction p with
  | nil => rfl
  | cons x t ih => simp [flat] at *; omega
theorem flat_rd (p : List (Int × Int)) : ∀ j, j < p.length → rd (flat p) ((2 * j : Nat) : Int) = (p.getD j (0, 0)).1 ∧ rd (flat p) ((2 * j + 1 : Nat) : Int) = (p.getD j (0, 0)).2 := by
  induction p with
  | nil => intro j h; simp at h
  | cons x t ih =>
    intro j h
    match j with
    | 0 => exact ⟨rfl, rfl⟩
    | j + 1 =>
      have := ih j (by simpa using h)
      have e : ∀ i : Nat, rd (flat (x :: t)) ((i + 2 : Nat) : Int) = rd (flat t) (i : Int) := fun i => by unfold rd; rw [Int.toNat_natCast, Int.toNat_natCast]; rfl
      rw [show 2 * (j + 1) = 2 * j + 2 by omega, show 2 * j + 2 + 1 = (2 * j + 1) + 2 by omega, e, e, this.1, this.2]
      exact ⟨rfl, rfl⟩
theorem in_l (r : Int) (p : List (Int × Int)) (hp : p.length ≤ 1000) : ∀ (d j k : Nat), j + d = p.length → d < k → prolepsisref03_in.l0 k r (flat p) ((2 * j : Nat) : Int) = some (inL r (p.drop j)) := by
  intro d
  induction d with
  | zero =>
    intro j k hj hk
    obtain ⟨k, rfl⟩ := kp hk
    have hf := flat_len p
    rw [prolepsisref03_in.l0, w64 (by omega) (by omega), if_neg (by omega), List.drop_eq_nil_of_le (by omega)]
    rfl
  | succ d ih =>
    intro j k hj hk
    obtain ⟨k, rfl⟩ := kp hk
    have hf := flat_len p
    obtain ⟨e1, e2⟩ := flat_rd p j (by omega)
    have hd : p.drop j = p.getD j (0, 0) :: p.drop (j + 1) := by rw [List.drop_eq_getElem_cons (show j < p.length by omega)]; simp [List.getD_eq_getElem?_getD, show j < p.length by omega]
    have ih' := ih (j + 1) k (by omega) (by omega)
    have h1 : ((2 * j : Nat) : Int) + 1 = ((2 * j + 1 : Nat) : Int) := by omega
    have h2 : ((2 * j : Nat) : Int) + 2 = ((2 * (j + 1) : Nat) : Int) := by omega
    rw [prolepsisref03_in.l0, h1, h2, w64 (x := ((2 * j + 1 : Nat) : Int)) (by omega) (by omega), w64 (x := ((2 * (j + 1) : Nat) : Int)) (by omega) (by omega), e1, e2, ih', hd,
      if_pos (by omega), if_pos (show (0 : Int) ≤ ((2 * j : Nat) : Int) by omega), if_pos (by omega), if_pos (show (0 : Int) ≤ ((2 * j + 1 : Nat) : Int) by omega)]
    by_cases a : (p.getD j (0, 0)).1 ≤ r <;> by_cases b : r ≤ (p.getD j (0, 0)).2 <;> simp only [List.getD_eq_getElem?_getD] at a b <;> simp [inL, a, b]
theorem in_ok (r : Int) (p : List (Int × Int)) (l : List Int) (h : l = flat p) (k : Nat) (hk : p.length < k) (hp : p.length ≤ 1000) : prolepsisref03_in.f k r l = some (inL r p) := by
  subst h
  unfold prolepsisref03_in.f
  have := in_l r p hp p.length 0 k (by omega) hk
  simpa using this
theorem rOf (r : Int) (k : Nat) (hk : 20 ≤ k) : prolepsisref03_Of.f k r = some (wOf r) := by
  obtain ⟨k, rfl⟩ : ∃ m, k = m + 1 := ⟨k - 1, by omega⟩
  have j1 : prolepsisref03_Of.j0 (k + 1) r true = some (-1) := by rw [prolepsisref03_Of.j0, if_pos rfl]
  have j2 : prolepsisref03_Of.j0 (k + 1) r false = some (if inL r markL = true then 0 else if inL r wideL = true then 2 else 1) := by
    rw [prolepsisref03_Of.j0, if_neg (by simp), in_ok r markL [768, 879, 8203, 8207, 8400, 8447, 65024, 65039, 65056, 65071] rfl k (by simp [markL]; omega) (by simp [markL]), in_ok r wideL [4352, 4447, 11904, 12350, 12353, 42191, 44032, 55203, 63744, 64255, 65072, 65135, 65280, 65376, 65504, 65510, 127744, 128591, 129280, 129535, 131072, 262141] rfl k (by simp [wideL]; omega) (by simp [wideL])]
    simp only [Option.bind_some]
    split <;> (try split) <;> rfl
  unfold prolepsisref03_Of.f wOf
  by_cases a : r < 32
  · rw [if_pos a, if_pos (.inl a), j1]
  · rw [if_neg a, in_ok r [(127, 159)] [127, 159] rfl (k + 1) (by simp; omega) (by simp)]
    simp only [Option.bind_some]
    by_cases b : 127 ≤ r ∧ r ≤ 159
    · rw [if_pos (by simp [inL, b]), if_pos (.inr (.inl b)), j1]
    · rw [if_neg (by simp only [inL, List.any_cons, List.any_nil, Bool.or_false, Bool.and_eq_true, decide_eq_true_eq]; exact b), rScalar]
      simp only [Option.bind_some]
      cases hs : scalarZ r
      · rw [if_pos (.inr (.inr rfl))]; exact j1
      · rw [if_neg (by simp; omega)]; exact j2
theorem Ints_l (l : List Int) (h32 : ∀ x ∈ l, -2147483648 ≤ x ∧ x ≤ 2147483647) (hl : l.length ≤ 1000000) : ∀ (d i k : Nat) (o : List Int), i + d = l.length → d < k → o.length + d ≤ 1000000 → prolepsislaw02_Ints.l0 k l o (i : Int) = some (o ++ l.drop i) := by
  intro d
  induction d with
  | zero =>
    intro i k o hi hk ho
    obtain ⟨k, rfl⟩ := kp hk
    rw [prolepsislaw02_Ints.l0, if_neg (by omega), List.drop_eq_nil_of_le (by omega)]; simp
  | succ d ih =>
    intro i k o hi hk ho
    obtain ⟨k, rfl⟩ := kp hk
    have hx := h32 _ (rd_in (show i < l.length by omega))
    rw [prolepsislaw02_Ints.l0, if_pos (by omega), if_pos (by omega), if_pos (by omega), w64 (by omega) (by omega), w64 (by omega) (by omega), cast1, ih (i + 1) k _ (by omega) (by omega) (by simp; omega), drop_rd (show i < l.length by omega)]
    simp
theorem Ints_ok (l : List Int) (h32 : ∀ x ∈ l, -2147483648 ≤ x ∧ x ≤ 2147483647) (hl : l.length ≤ 1000000) (k : Nat) (hk : l.length < k) : prolepsislaw02_Ints.f k l = some l := by
  unfold prolepsislaw02_Ints.f
  have := Ints_l l h32 hl l.length 0 k [] (by omega) hk (by simp; omega)
  simpa using this
theorem in32 {x : Int} (h : (Lit.int .i32 x).wf = true) : -2147483648 ≤ x ∧ x ≤ 2147483647 := by have := bounds_i32 h; omega
theorem mn_len {n : Nat} {c : Int} (hc : 0 ≤ c) : 0 ≤ mn (n : Int) c ∧ mn (n : Int) c ≤ n ∧ mn (n : Int) c ≤ c := by unfold mn; split <;> omega
theorem rTotal_l (l : List Int) (hl : l.length ≤ 1000000) : ∀ (d i : Nat) (n : Int) (k : Nat), i + d = l.length → d + 20 < k → 0 ≤ n → n + 2 * d ≤ 4611686018427387904 → prolepsisref03_Total.l0 k l n (i : Int) = some (n + wTotal (l.drop i)) := by
  intro d
  induction d with
  | zero =>
    intro i n k hi hk h0 h1
    obtain ⟨k, rfl⟩ := kp hk
    rw [prolepsisref03_Total.l0, if_neg (by omega), List.drop_eq_nil_of_le (by omega)]; simp [wTotal_nil]
  | succ d ih =>
    intro i n k hi hk h0 h1
    obtain ⟨k, rfl⟩ := kp hk
    have hb := wOf_bounds (rd l i)
    rw [prolepsisref03_Total.l0, if_pos (by omega), if_pos (by omega), rOf _ k (by omega)]
    simp only [Option.bind_some]
    rw [w64 (x := (i : Int) + 1) (by omega) (by omega), cast1, drop_rd (show i < l.length by omega), wTotal_cons]
    by_cases h : wOf (rd l i) > 0
    · rw [if_pos h, w64 (by omega) (by omega), ih (i + 1) _ k (by omega) (by omega) (by omega) (by omega), show wPos (rd l i) = wOf (rd l i) by unfold wPos; rw [if_pos h]]
      congr 1; omega
    · rw [if_neg h, ih (i + 1) _ k (by omega) (by omega) (by omega) (by omega), show wPos (rd l i) = 0 by unfold wPos; rw [if_neg h]]
      congr 1; omega
theorem rTotal_ok (l : List Int) (k : Nat) (hk : l.length + 20 < k) (hl : l.length ≤ 1000000) : prolepsisref03_Total.f k l = some (wTotal l) := by
  unfold prolepsisref03_Total.f
  have := rTotal_l l hl l.length 0 0 k (by omega) (by omega) (by omega) (by omega)
  simpa using this
/-- How many runes have room. -/
def fitN (n : Int) : List Int → Nat
  | [] => 0
  | r :: t => if n - wPos r < 0 then 0 else fitN (n - wPos r) t + 1
theorem fitN_le (l : List Int) : ∀ n, fitN n l ≤ l.length := by
  induction l with
  | nil => intro n; simp [fitN]
  | cons r t ih => intro n; rw [fitN]; split <;> simp; exact ih _
theorem fitN_mono (l : List Int) : ∀ n m, n ≤ m → fitN n l ≤ fitN m l := by
  induction l with
  | nil => intro n m h; simp [fitN]
  | cons r t ih =>
    intro n m h
    rw [fitN, fitN]
    split
    · omega
    · rw [if_neg (by omega)]; have := ih (n - wPos r) (m - wPos r) (by omega); omega
theorem fitN_total (l : List Int) : ∀ n, 0 ≤ n → wTotal (l.take (fitN n l)) ≤ n := by
  induction l with
  | nil => intro n h; simp [fitN, wTotal_nil]; exact h
  | cons r t ih =>
    intro n h
    rw [fitN]
    split
    · rw [List.take_zero, wTotal_nil]; exact h
    · have := ih (n - wPos r) (by omega); rw [List.take_succ_cons, wTotal_cons]; omega
theorem fitN_append (a b : List Int) : ∀ n, fitN n a ≤ fitN n (a ++ b) := by
  induction a with
  | nil => intro n; simp [fitN]
  | cons r t ih => intro n; rw [List.cons_append, fitN, fitN]; have := ih (n - wPos r); split <;> omega
theorem fitN_all (l : List Int) : ∀ n, 2 * (l.length : Int) ≤ n → fitN n l = l.length := by
  induction l with
  | nil => intro n h; rfl
  | cons r t ih =>
    intro n h
    have hb := wPos_bounds r
    rw [List.length_cons] at h
    rw [fitN, if_neg (by omega), ih _ (by omega), List.length_cons]
theorem Fit_l (l : List Int) (hl : l.length ≤ 1000000) : ∀ (d i k : Nat) (n : Int), i + d = l.length → d < k → 0 ≤ n → n ≤ 9223372036854775807 → width_Fit.l0 k n l l (l.length : Int) (i : Int) = some ((i + fitN n (l.drop i) : Nat) : Int) := by
  intro d
  induction d with
  | zero =>
    intro i k n hi hk h0 h1
    obtain ⟨k, rfl⟩ := kp hk
    rw [width_Fit.l0, if_neg (by omega), List.drop_eq_nil_of_le (by omega)]
    simp [fitN]; omega
  | succ d ih =>
    intro i k n hi hk h0 h1
    obtain ⟨k, rfl⟩ := kp hk
    have hp := wPos_bounds (rd l i)
    rw [width_Fit.l0, if_pos (by omega), if_pos (by omega), if_pos (by omega), show width_Of.f (rd l i) = some (wOf (rd l i)) from rfl]
    simp only [Option.bind_some]
    rw [mx_pos, w64 (by omega) (by omega), w64 (x := (i : Int) + 1) (by omega) (by omega), cast1, drop_rd (show i < l.length by omega), fitN]
    by_cases h : n - wPos (rd l i) < 0
    · rw [if_pos h, if_pos h]; rfl
    · rw [if_neg h, if_neg h, ih (i + 1) k _ (by omega) (by omega) (by omega) (by omega)]
      congr 1; omega
def fitZ (n : Int) (l : List Int) : Int := if n < 0 then 0 else (fitN n l : Int)
theorem Fit_ok (l : List Int) (hl : l.length ≤ 1000000) (n : Int) (h1 : n ≤ 9223372036854775807) (k : Nat) (hk : l.length < k) : width_Fit.f k n l = some (fitZ n l) := by
  unfold width_Fit.f fitZ
  by_cases h : n < 0
  · rw [if_pos h, if_pos h]
  · rw [if_neg h, if_neg h]
    have := Fit_l l hl l.length 0 k n (by omega) hk (by omega) h1
    simpa using this
theorem take_next {l : List Int} {i : Nat} (h : i < l.length) : wTotal (l.take (i + 1)) = wTotal (l.take i) + wPos (rd l (i : Int)) := by
  rw [List.take_add_one, wTotal_append]
  simp [rd, List.getD_eq_getElem?_getD, h, wTotal]
theorem rFit_l (l : List Int) (hl : l.length ≤ 1000) (n : Int) : ∀ (d i k : Nat), i + d = l.length → d + 1100 < k → prolepsisref03_Fit.l0 k n l (i : Int) = some ((i + fitN (n - wTotal (l.take i)) (l.drop i) : Nat) : Int) := by
  intro d
  induction d with
  | zero =>
    intro i k hi hk
    obtain ⟨k, rfl⟩ := kp hk
    rw [prolepsisref03_Fit.l0, if_neg (by omega), List.drop_eq_nil_of_le (by omega)]
    simp [fitN]
  | succ d ih =>
    intro i k hi hk
    obtain ⟨k, rfl⟩ := kp hk
    have ht : (l.take (i + 1)).length ≤ l.length := by rw [List.length_take]; omega
    rw [prolepsisref03_Fit.l0, if_pos (by omega), w64 (by omega) (by omega), if_pos (by omega), if_pos (by omega), cast1, Int.toNat_natCast, rTotal_ok _ k (by omega) (by omega)]
    simp only [Option.bind_some]
    rw [take_next (show i < l.length by omega), drop_rd (show i < l.length by omega), fitN]
    by_cases h : wTotal (l.take i) + wPos (rd l (i : Int)) ≤ n
    · rw [if_pos h, if_neg (by omega), ih (i + 1) k (by omega) (by omega), take_next (show i < l.length by omega)]
      rw [show n - (wTotal (l.take i) + wPos (rd l (i : Int))) = n - wTotal (l.take i) - wPos (rd l (i : Int)) by omega]
      congr 1; omega
    · rw [if_neg h, if_pos (by omega)]; rfl
theorem rFit_ok (l : List Int) (hl : l.length ≤ 1000) (n : Int) (k : Nat) (hk : l.length + 1100 < k) : prolepsisref03_Fit.f k n l = some (fitZ n l) := by
  unfold prolepsisref03_Fit.f fitZ
  by_cases h : n < 0
  · rw [if_pos h, if_pos h]
  · rw [if_neg h, if_neg h]
    have := rFit_l l hl n l.length 0 k (by omega) (by omega)
    simpa [wTotal_nil] using this
theorem WidthFits : prolepsislaw03_WidthFits.Pure := by
  intro n m l hn hm h1 h2 hw
  have hn := bounds_i64 hn
  have hm := bounds_i64 hm
  have h32 : ∀ x ∈ l, -2147483648 ≤ x ∧ x ≤ 2147483647 := fun x hx => in32 (hw x hx)
  refine ⟨10000, ?_⟩
  have hq := mn_len (n := l.length) (c := 30) (by omega)
  unfold prolepsislaw03_WidthFits.f
  rw [if_pos hq.1, if_pos hq.2.1]
  have h32' : ∀ x ∈ l.take (mn (l.length : Int) 30).toNat, -2147483648 ≤ x ∧ x ≤ 2147483647 := fun x hx => h32 x (List.mem_of_mem_take hx)
  have hl : (l.take (mn (l.length : Int) 30).toNat).length ≤ 30 := by rw [List.length_take]; omega
  generalize l.take (mn (l.length : Int) 30).toNat = L at *
  rw [Fit_ok L (by omega) n (by omega) _ (by omega), known_ok _ (by omega), Ints_ok L h32' (by omega) _ (by omega)]
  simp only [Option.bind_some]
  rw [if_pos trivial, rFit_ok L (by omega) n _ (by omega)]
  simp only [Option.bind_some]
  rw [if_pos trivial, Fit_ok L (by omega) m (by omega) _ (by omega)]
  simp only [Option.bind_some]
  have hf := fitN_le L n
  have key : (if n < 0 then some true else if 0 ≤ fitZ n L then if fitZ n L ≤ (L.length : Int) then (width_Total.f 10000 (L.take (fitZ n L).toNat)).bind fun t => some (decide (t ≤ n)) else none else none) = some true := by
    by_cases h : n < 0
    · rw [if_pos h]
    · have hz : fitZ n L = (fitN n L : Int) := by unfold fitZ; rw [if_neg h]
      rw [if_neg h, hz, if_pos (by omega), if_pos (by omega), Int.toNat_natCast, Total_ok _ _ (by rw [List.length_take]; omega) (by rw [List.length_take]; omega)]
      simp [fitN_total L n (by omega)]
  by_cases hnm : n > m
  · rw [if_pos hnm]; exact key
  · have hle : fitZ n L ≤ fitZ m L := by
      unfold fitZ
      have := fitN_mono L n m (by omega)
      split <;> split <;> omega
    rw [if_neg hnm, if_pos hle]; exact key
end Go.Proofs.Ytglcopljhanhmaa.Pure
