/- WidthClusters: the clusters of any runes are the document's, and their totals together are the total. No condition. -/
import Derived.Test.YtglcopljhanhmaaPWidthClustersx3
import Derived.OpenShut
namespace Go.Proofs.Ytglcopljhanhmaa.Pure
open Go.RowKit Go.Proofs.Ytglcopljhanhmaa.PWidthClusters Go.Proofs.YtglcopljhanhmaaW.PrintWords Go.Proofs.YtglcopljhanhmaaW.PrintLast Go.Proofs.YtglcopljhanhmaaW.PrintMore
theorem w64 {x : Int} (h0 : -9223372036854775808 ≤ x) (h1 : x < 9223372036854775808) : wrap64 x = x := by unfold wrap64; omega
theorem kp {d k : Nat} (h : d < k) : ∃ m, k = m + 1 := ⟨k - 1, by omega⟩
theorem drop_rd {xs : List Int} {i : Nat} (h : i < xs.length) : xs.drop i = rd xs (i : Int) :: xs.drop (i + 1) := by
  rw [List.drop_eq_getElem_cons h]
  simp [rd, List.getD_eq_getElem?_getD, h]
theorem rd_in {xs : List Int} {i : Nat} (h : i < xs.length) : rd xs (i : Int) ∈ xs := by
  simp [rd, List.getD_eq_getElem?_getD, h]
theorem cast1 (i : Nat) : ((i : Int) + 1) = ((i + 1 : Nat) : Int) := by omega
theorem wOf_bounds (r : Int) : -1 ≤ wOf r ∧ wOf r ≤ 2 := by unfold wOf; split <;> (try split) <;> (try split) <;> omega
theorem wPos_bounds (r : Int) : 0 ≤ wPos r ∧ wPos r ≤ 2 := by have := wOf_bounds r; unfold wPos; split <;> omega
theorem mx_pos (r : Int) : mx 0 (wOf r) = wPos r := by unfold mx wPos; by_cases h : 0 < wOf r <;> simp [h]
theorem wTotal_cons (r : Int) (t : List Int) : wTotal (r :: t) = wPos r + wTotal t := by simp [wTotal]
theorem wTotal_nil : wTotal [] = 0 := rfl
theorem wTotal_append (a b : List Int) : wTotal (a ++ b) = wTotal a + wTotal b := by simp [wTotal]
theorem wTotal_bounds (l : List Int) : 0 ≤ wTotal l ∧ wTotal l ≤ 2 * l.length := by
  induction l with
  | nil => simp [wTotal_nil]
  | cons r t ih => have := wPos_bounds r; rw [wTotal_cons, List.length_cons]; omega
theorem Total_l (l : List Int) : ∀ (d i : Nat) (n : Int) (k : Nat), i + d = l.length → d < k → 0 ≤ n → n + 2 * d ≤ 4611686018427387904 → l.length ≤ 4611686018427387904 →
    width_Total.l0 k n l (l.length : Int) (i : Int) = some (n + wTotal (l.drop i)) := by
  intro d
  induction d with
  | zero =>
    intro i n k hi hk h0 h1 hl
    obtain ⟨k, rfl⟩ := kp hk
    rw [width_Total.l0, if_neg (by omega), List.drop_eq_nil_of_le (by omega)]
    simp [wTotal_nil]
  | succ d ih =>
    intro i n k hi hk h0 h1 hl
    obtain ⟨k, rfl⟩ := kp hk
    rw [width_Total.l0, if_pos (by omega), if_pos (by omega), if_pos (by omega)]
    have hp := wPos_bounds (rd l i)
    show width_Total.l0 k (wrap64 (n + mx 0 (wOf (rd l i)))) l l.length (wrap64 (i + 1)) = _
    rw [mx_pos, w64 (by omega) (by omega), w64 (by omega) (by omega), cast1, ih (i + 1) (n + wPos (rd l i)) k (by omega) (by omega) (by omega) (by omega) hl, drop_rd (show i < l.length by omega), wTotal_cons]
    congr 1; omega
theorem Total_ok (l : List Int) (k : Nat) (hk : l.length < k) (hl : l.length ≤ 1000000) : width_Total.f k l = some (wTotal l) := by
  unfold width_Total.f
  have := Total_l l l.length 0 0 k (by omega) hk (by omega) (by omega) (by omega)
  simpa using this
/-- The clusters of runes. -/
def clusR : List Int → List (List Int)
  | [] => []
  | r :: t => if wOf r < 1 then clusR t else (r :: t.takeWhile (fun x => wOf x == 0)) :: clusR t
theorem set_last {α : Type} (o : List α) (c x : α) : (o ++ [c]).set o.length x = o ++ [x] := by simp
theorem last_L2 (o : List (List Int)) (c : List Int) : rd_L2 (o ++ [c]) (o.length : Int) = c := by simp [rd_L2]
theorem Clus_l (l : List Int) (hl : l.length ≤ 1000000) : ∀ (d i k : Nat), i + d = l.length → d < k →
    (∀ o, o.length + d ≤ 2000000 → width_Clusters.l0 k o false l (l.length : Int) (i : Int) = some (o ++ clusR (l.drop i))) ∧
    (∀ o c, o.length + 1 + d ≤ 2000000 → c.length + d ≤ 2000000 → width_Clusters.l0 k (o ++ [c]) true l (l.length : Int) (i : Int) = some (o ++ [c ++ (l.drop i).takeWhile (fun x => wOf x == 0)] ++ clusR (l.drop i))) := by
  intro d
  induction d with
  | zero =>
    intro i k hi hk
    obtain ⟨k, rfl⟩ := kp hk
    refine ⟨fun o ho => ?_, fun o c ho hc => ?_⟩
    · rw [width_Clusters.l0, if_neg (by omega), List.drop_eq_nil_of_le (by omega)]; simp [clusR]
    · rw [width_Clusters.l0, if_neg (by omega), List.drop_eq_nil_of_le (by omega)]; simp [clusR]
  | succ d ih =>
    intro i k hi hk
    obtain ⟨k, rfl⟩ := kp hk
    obtain ⟨ihf, iht⟩ := ih (i + 1) k (by omega) (by omega)
    have hb := wOf_bounds (rd l i)
    have hd := drop_rd (show i < l.length by omega)
    refine ⟨fun o ho => ?_, fun o c ho hc => ?_⟩
    · rw [width_Clusters.l0, if_pos (by omega), if_pos (by omega), if_pos (by omega), show width_Of.f (rd l i) = some (wOf (rd l i)) from rfl]
      simp only [Option.bind_some]
      rw [w64 (by omega) (by omega), cast1, hd]
      by_cases h1 : wOf (rd l i) < 0
      · rw [if_pos h1, ihf o (by omega), clusR, if_pos (by omega)]
      · rw [if_neg h1]
        by_cases h2 : wOf (rd l i) > 0
        · rw [if_pos h2, if_pos (by omega), iht o [rd l i] (by omega) (by simp; omega), clusR, if_neg (by omega)]
          simp
        · rw [if_neg h2, if_neg (by simp), ihf o (by omega), clusR, if_pos (by omega)]
    · rw [width_Clusters.l0, if_pos (by omega), if_pos (by omega), if_pos (by omega), show width_Of.f (rd l i) = some (wOf (rd l i)) from rfl]
      simp only [Option.bind_some]
      rw [w64 (x := (i : Int) + 1) (by omega) (by omega), cast1, hd]
      by_cases h1 : wOf (rd l i) < 0
      · rw [if_pos h1, ihf (o ++ [c]) (by simp; omega), clusR, if_pos (by omega), List.takeWhile_cons_of_neg (by simp; omega)]
        simp
      · rw [if_neg h1]
        by_cases h2 : wOf (rd l i) > 0
        · rw [if_pos h2, if_pos (by simp; omega), iht (o ++ [c]) [rd l i] (by simp; omega) (by simp; omega), clusR, if_neg (by omega), List.takeWhile_cons_of_neg (by simp; omega)]
          simp
        · have hlen : (((o ++ [c]).length : Int) - 1) = (o.length : Int) := by simp
          rw [if_neg h2, if_pos trivial, hlen, w64 (x := (o.length : Int)) (by omega) (by omega), if_pos (by omega), if_pos (by simp; omega), last_L2, if_pos (by omega), Int.toNat_natCast, set_last,
            iht o (c ++ [rd l i]) (by omega) (by simp; omega), clusR, if_pos (by omega), List.takeWhile_cons_of_pos (by simp; omega)]
          simp
theorem Clus_ok (l : List Int) (k : Nat) (hk : l.length < k) (hl : l.length ≤ 1000000) : width_Clusters.f k l = some (clusR l) := by
  unfold width_Clusters.f
  have := (Clus_l l hl l.length 0 k (by omega) hk).1 [] (by simp; omega)
  simpa using this
theorem known_ok (k : Nat) (hk : 10 < k) : prolepsislaw03_known.f k = some true := by
  unfold prolepsislaw03_known.f
  rw [show width_Of.f 97 = some 1 by decide +kernel, show width_Of.f 12354 = some 2 by decide +kernel, show width_Of.f 769 = some 0 by decide +kernel, show width_Of.f 27 = some (-1) by decide +kernel, Clus_ok _ k (by simp; omega) (by simp)]
  decide +kernel
theorem rScalar (r : Int) : prolepsisref02_Scalar.f r = some (scalarZ r) := by
  unfold prolepsisref02_Scalar.f scalarZ
  by_cases a : 0 ≤ r <;> by_cases b : r ≤ 1114111 <;> by_cases c : r < 55296 <;> by_cases d : 57343 < r <;> simp [*] <;> omega
def flat (p : List (Int × Int)) : List Int := p.flatMap fun x => [x.1, x.2]
theorem flat_len (p : List (Int × Int)) : (flat p).length = 2 * p.length := by
  induction p with
  | nil => rfl
  | cons x t ih => simp [flat] at *; omega
theorem flat_rd (p : List (Int × Int)) : ∀ j, j < p.length → rd (flat p) ((2 * j : Nat) : Int) = (p.getD j (0, 0)).1 ∧ rd (flat p) ((2 * j + 1 : Nat) : Int) = (p.getD j (0, 0)).2 := by
  induction p with
  | nil => intro j h; simp at h
  | cons x t ih =>
    intro j h
    match j with
    | 0 => exact ⟨rfl, rfl⟩
    | j + 1 =>
      have := ih j (by simpa using h)
      have e : ∀ i : Nat, rd (flat (x :: t)) ((i + 2 : Nat) : Int) = rd (flat t) (i : Int) := fun i => by unfold rd; rw [Int.toNat_natCast, Int.toNat_natCast]; rfl
      rw [show 2 * (j + 1) = 2 * j + 2 by omega, show 2 * j + 2 + 1 = (2 * j + 1) + 2 by omega, e, e, this.1, this.2]
      exact ⟨rfl, rfl⟩
theorem in_l (r : Int) (p : List (Int × Int)) (hp : p.length ≤ 1000) : ∀ (d j k : Nat), j + d = p.length → d < k → prolepsisref03_in.l0 k r (flat p) ((2 * j : Nat) : Int) = some (inL r (p.drop j)) := by
  intro d
  induction d with
  | zero =>
    intro j k hj hk
    obtain ⟨k, rfl⟩ := kp hk
    have hf := flat_len p
    rw [prolepsisref03_in.l0, w64 (by omega) (by omega), if_neg (by omega), List.drop_eq_nil_of_le (by omega)]
    rfl
  | succ d ih =>
    intro j k hj hk
    obtain ⟨k, rfl⟩ := kp hk
    have hf := flat_len p
    obtain ⟨e1, e2⟩ := flat_rd p j (by omega)
    have hd : p.drop j = p.getD j (0, 0) :: p.drop (j + 1) := by rw [List.drop_eq_getElem_cons (show j < p.length by omega)]; simp [List.getD_eq_getElem?_getD, show j < p.length by omega]
    have ih' := ih (j + 1) k (by omega) (by omega)
    have h1 : ((2 * j : Nat) : Int) + 1 = ((2 * j + 1 : Nat) : Int) := by omega
    have h2 : ((2 * j : Nat) : Int) + 2 = ((2 * (j + 1) : Nat) : Int) := by omega
    rw [prolepsisref03_in.l0, h1, h2, w64 (x := ((2 * j + 1 : Nat) : Int)) (by omega) (by omega), w64 (x := ((2 * (j + 1) : Nat) : Int)) (by omega) (by omega), e1, e2, ih', hd,
      if_pos (by omega), if_pos (show (0 : Int) ≤ ((2 * j : Nat) : Int) by omega), if_pos (by omega), if_pos (show (0 : Int) ≤ ((2 * j + 1 : Nat) : Int) by omega)]
    by_cases a : (p.getD j (0, 0)).1 ≤ r <;> by_cases b : r ≤ (p.getD j (0, 0)).2 <;> simp only [List.getD_eq_getElem?_getD] at a b <;> simp [inL, a, b]
theorem in_ok (r : Int) (p : List (Int × Int)) (l : List Int) (h : l = flat p) (k : Nat) (hk : p.length < k) (hp : p.length ≤ 1000) : prolepsisref03_in.f k r l = some (inL r p) := by
  subst h
  unfold prolepsisref03_in.f
  have := in_l r p hp p.length 0 k (by omega) hk
  simpa using this
theorem rOf (r : Int) (k : Nat) (hk : 20 ≤ k) : prolepsisref03_Of.f k r = some (wOf r) := by
  obtain ⟨k, rfl⟩ : ∃ m, k = m + 1 := ⟨k - 1, by omega⟩
  have j1 : prolepsisref03_Of.j0 (k + 1) r true = some (-1) := by rw [prolepsisref03_Of.j0, if_pos rfl]
  have j2 : prolepsisref03_Of.j0 (k + 1) r false = some (if inL r markL = true then 0 else if inL r wideL = true then 2 else 1) := by
    rw [prolepsisref03_Of.j0, if_neg (by simp), in_ok r markL [768, 879, 8203, 8207, 8400, 8447, 65024, 65039, 65056, 65071] rfl k (by simp [markL]; omega) (by simp [markL]), in_ok r wideL [4352, 4447, 11904, 12350, 12353, 42191, 44032, 55203, 63744, 64255, 65072, 65135, 65280, 65376, 65504, 65510, 127744, 128591, 129280, 129535, 131072, 262141] rfl k (by simp [wideL]; omega) (by simp [wideL])]
    simp only [Option.bind_some]
    split <;> (try split) <;> rfl
  unfold prolepsisref03_Of.f wOf
  by_cases a : r < 32
  · rw [if_pos a, if_pos (.inl a), j1]
  · rw [if_neg a, in_ok r [(127, 159)] [127, 159] rfl (k + 1) (by simp; omega) (by simp)]
    simp only [Option.bind_some]
    by_cases b : 127 ≤ r ∧ r ≤ 159
    · rw [if_pos (by simp [inL, b]), if_pos (.inr (.inl b)), j1]
    · rw [if_neg (by simp only [inL, List.any_cons, List.any_nil, Bool.or_false, Bool.and_eq_true, decide_eq_true_eq]; exact b), rScalar]
      simp only [Option.bind_some]
      cases hs : scalarZ r
      · rw [if_pos (.inr (.inr rfl))]; exact j1
      · rw [if_neg (by simp; omega)]; exact j2
theorem Ints_l (l : List Int) (h32 : ∀ x ∈ l, -2147483648 ≤ x ∧ x ≤ 2147483647) (hl : l.length ≤ 1000000) : ∀ (d i k : Nat) (o : List Int), i + d = l.length → d < k → o.length + d ≤ 1000000 → prolepsislaw02_Ints.l0 k l o (i : Int) = some (o ++ l.drop i) := by
  intro d
  induction d with
  | zero =>
    intro i k o hi hk ho
    obtain ⟨k, rfl⟩ := kp hk
    rw [prolepsislaw02_Ints.l0, if_neg (by omega), List.drop_eq_nil_of_le (by omega)]; simp
  | succ d ih =>
    intro i k o hi hk ho
    obtain ⟨k, rfl⟩ := kp hk
    have hx := h32 _ (rd_in (show i < l.length by omega))
    rw [prolepsislaw02_Ints.l0, if_pos (by omega), if_pos (by omega), if_pos (by omega), w64 (by omega) (by omega), w64 (by omega) (by omega), cast1, ih (i + 1) k _ (by omega) (by omega) (by simp; omega), drop_rd (show i < l.length by omega)]
    simp
theorem Ints_ok (l : List Int) (h32 : ∀ x ∈ l, -2147483648 ≤ x ∧ x ≤ 2147483647) (hl : l.length ≤ 1000000) (k : Nat) (hk : l.length < k) : prolepsislaw02_Ints.f k l = some l := by
  unfold prolepsislaw02_Ints.f
  have := Ints_l l h32 hl l.length 0 k [] (by omega) hk (by simp; omega)
  simpa using this
theorem in32 {x : Int} (h : (Lit.int .i32 x).wf = true) : -2147483648 ≤ x ∧ x ≤ 2147483647 := by have := bounds_i32 h; omega
theorem mn_len {n : Nat} {c : Int} (hc : 0 ≤ c) : 0 ≤ mn (n : Int) c ∧ mn (n : Int) c ≤ n ∧ mn (n : Int) c ≤ c := by unfold mn; split <;> omega
theorem last_rd {l : List Int} {i : Nat} (h : ¬ i < l.length) : l.drop i = [] := List.drop_eq_nil_of_le (by omega)
theorem tw_next {l : List Int} {i : Nat} (h : i < l.length) (hw : wOf (rd l (i : Int)) = 0) : (l.drop i).takeWhile (fun x => wOf x == 0) = rd l (i : Int) :: (l.drop (i + 1)).takeWhile (fun x => wOf x == 0) := by
  rw [drop_rd h, List.takeWhile_cons_of_pos (by simp [hw])]
theorem tw_stop {l : List Int} {i : Nat} (h : i < l.length) (hw : ¬ wOf (rd l (i : Int)) = 0) : (l.drop i).takeWhile (fun x => wOf x == 0) = [] := by
  rw [drop_rd h, List.takeWhile_cons_of_neg (by simp [hw])]
theorem len1 {α : Type} (o : List α) (c : α) : (o ++ [c]).length = o.length + 1 := by simp
set_option maxRecDepth 100000 in
theorem rClus_l (l : List Int) (hl : l.length ≤ 1000) : ∀ (d i k : Nat) (o : List (List Int)), i + d = l.length → d * 1100 + 30 < k → o.length + d ≤ 2000 →
    prolepsisref03_Clusters.l0 k l o (i : Int) = some (o ++ clusR (l.drop i)) := by
  intro d
  induction d with
  | zero =>
    intro i k o hi hk ho
    obtain ⟨k, rfl⟩ := kp hk
    rw [prolepsisref03_Clusters.l0, if_neg (by omega), last_rd (by omega)]; simp [clusR]
  | succ d ih =>
    intro i k o hi hk ho
    obtain ⟨k, rfl⟩ := kp hk
    have inner : ∀ (e j q : Nat) (c : List Int), j + e = l.length → d * 1100 + 31 + e < q → c.length + e ≤ 2000 →
        prolepsisref03_Clusters.l1 q l o (i : Int) c (j : Int) = some (o ++ [c ++ (l.drop j).takeWhile (fun x => wOf x == 0)] ++ clusR (l.drop (i + 1))) := by
      intro e
      induction e with
      | zero =>
        intro j q c hj hq hc
        obtain ⟨q, rfl⟩ := kp hq
        rw [prolepsisref03_Clusters.l1, if_neg (by omega), if_pos (by omega), w64 (by omega) (by omega), cast1, ih (i + 1) q (o ++ [c]) (by omega) (by omega) (by have := len1 o c; omega), last_rd (i := j) (by omega)]
        simp
      | succ e ihe =>
        intro j q c hj hq hc
        obtain ⟨q, rfl⟩ := kp hq
        rw [prolepsisref03_Clusters.l1, if_pos (by omega), if_pos (by omega), rOf _ q (by omega)]
        simp only [Option.bind_some]
        by_cases hw : wOf (rd l (j : Int)) = 0
        · rw [if_pos hw, if_pos (by omega), w64 (by omega) (by omega), cast1 j, ihe (j + 1) q (c ++ [rd l (j : Int)]) (by omega) (by omega) (by have := len1 c (rd l (j : Int)); omega), tw_next (by omega) hw]
          simp
        · rw [if_neg hw, if_pos (by omega), w64 (by omega) (by omega), cast1 i, ih (i + 1) q (o ++ [c]) (by omega) (by omega) (by have := len1 o c; omega), tw_stop (by omega) hw]
          simp
    rw [prolepsisref03_Clusters.l0, if_pos (by omega), if_pos (by omega), rOf _ k (by omega)]
    simp only [Option.bind_some]
    rw [w64 (by omega) (by omega), cast1, drop_rd (show i < l.length by omega), clusR]
    by_cases h : wOf (rd l (i : Int)) < 1
    · rw [if_pos h, if_pos h, ih (i + 1) k o (by omega) (by omega) (by omega)]
    · rw [if_neg h, if_neg h, inner d (i + 1) k [rd l (i : Int)] (by omega) (by omega) (by rw [List.length_singleton]; omega)]
      simp
theorem rClus_ok (l : List Int) (hl : l.length ≤ 1000) (k : Nat) (hk : l.length * 1100 + 30 < k) : prolepsisref03_Clusters.f k l = some (clusR l) := by
  unfold prolepsisref03_Clusters.f
  have := rClus_l l hl l.length 0 k [] (by omega) hk (by simp; omega)
  simpa using this
theorem Same_l (a : List Int) (h32 : ∀ x ∈ a, -2147483648 ≤ x ∧ x ≤ 2147483647) (hl : a.length ≤ 1000000) : ∀ (d i k : Nat), i + d = a.length → d < k → prolepsislaw02_Same.l0 k a a (i : Int) = some true := by
  intro d
  induction d with
  | zero =>
    intro i k hi hk
    obtain ⟨k, rfl⟩ := kp hk
    rw [prolepsislaw02_Same.l0, if_neg (by omega)]
  | succ d ih =>
    intro i k hi hk
    obtain ⟨k, rfl⟩ := kp hk
    have hx := h32 _ (rd_in (show i < a.length by omega))
    rw [prolepsislaw02_Same.l0, if_pos (by omega), if_pos (by omega), if_pos (by omega), w64 (x := rd a (i : Int)) (by omega) (by omega), if_pos rfl, w64 (by omega) (by omega), cast1, ih (i + 1) k (by omega) (by omega)]
theorem Same_ok (a : List Int) (h32 : ∀ x ∈ a, -2147483648 ≤ x ∧ x ≤ 2147483647) (hl : a.length ≤ 1000000) (k : Nat) (hk : a.length < k) : prolepsislaw02_Same.f k a a = some true := by
  unfold prolepsislaw02_Same.f
  rw [if_pos rfl]
  exact Same_l a h32 hl a.length 0 k (by omega) hk
theorem rowOf (l : List Int) : ∀ c ∈ clusR l, c.length ≤ l.length ∧ ∀ x ∈ c, x ∈ l := by
  induction l with
  | nil => intro c h; simp [clusR] at h
  | cons r t ih =>
    intro c h
    rw [clusR] at h
    split at h
    · obtain ⟨a, b⟩ := ih c h
      exact ⟨by simp; omega, fun x hx => by simp [b x hx]⟩
    · rcases List.mem_cons.1 h with rfl | h
      · refine ⟨by simp; exact (List.takeWhile_sublist _).length_le, fun x hx => ?_⟩
        rcases List.mem_cons.1 hx with rfl | hx
        · simp
        · simp [(List.takeWhile_sublist _).subset hx]
      · obtain ⟨a, b⟩ := ih c h
        exact ⟨by simp; omega, fun x hx => by simp [b x hx]⟩
theorem clus_len (l : List Int) : (clusR l).length ≤ l.length := by
  induction l with
  | nil => simp [clusR]
  | cons r t ih => rw [clusR]; split <;> simp <;> omega
theorem marks_total (l : List Int) : wTotal (l.takeWhile (fun x => wOf x == 0)) = 0 := by
  induction l with
  | nil => rfl
  | cons r t ih =>
    by_cases h : wOf r = 0
    · rw [List.takeWhile_cons_of_pos (by simp [h]), wTotal_cons, ih]; simp [wPos, h]
    · rw [List.takeWhile_cons_of_neg (by simp [h])]; rfl
theorem clus_total (l : List Int) : ((clusR l).map wTotal).sum = wTotal l := by
  induction l with
  | nil => rfl
  | cons r t ih =>
    rw [clusR, wTotal_cons]
    split
    · rename_i h; rw [ih]; unfold wPos; rw [if_neg (by omega)]; omega
    · rw [List.map_cons, List.sum_cons, ih, wTotal_cons, marks_total]; omega
theorem rd_L2_in {xs : List (List Int)} {i : Nat} (h : i < xs.length) : rd_L2 xs (i : Int) ∈ xs := by
  simp [rd_L2, List.getD_eq_getElem?_getD, h]
theorem rd_L3_eq (xs : List (List Int)) (i : Nat) : rd_L3 xs (i : Int) = rd_L2 xs (i : Int) := rfl
theorem drop_L2 {xs : List (List Int)} {i : Nat} (h : i < xs.length) : xs.drop i = rd_L2 xs (i : Int) :: xs.drop (i + 1) := by
  rw [List.drop_eq_getElem_cons h]
  simp [rd_L2, List.getD_eq_getElem?_getD, h]
theorem sum_le (c : List (List Int)) (h : ∀ x ∈ c, x.length ≤ 30) : 0 ≤ (c.map wTotal).sum := by
  induction c with
  | nil => simp
  | cons a t ih => have := wTotal_bounds a; have := ih (fun x hx => h x (by simp [hx])); simp; omega
theorem Law_l (l : List Int) (h32 : ∀ x ∈ l, -2147483648 ≤ x ∧ x ≤ 2147483647) (hl : l.length ≤ 30) : ∀ (d i k : Nat) (n : Int), i + d = (clusR l).length → d + 100 < k → 0 ≤ n → n ≤ 60 * (i : Int) → n + (((clusR l).drop i).map wTotal).sum = wTotal l →
    prolepsislaw03_WidthClusters.l0 k l (clusR l) (clusR l) n (i : Int) = some true := by
  intro d
  have hc := clus_len l
  induction d with
  | zero =>
    intro i k n hi hk h0 h60 hn
    obtain ⟨k, rfl⟩ := kp hk
    rw [prolepsislaw03_WidthClusters.l0, if_neg (by omega), known_ok k (by omega)]
    simp only [Option.bind_some]
    rw [if_pos trivial, Total_ok l k (by omega) (by omega)]
    rw [List.drop_eq_nil_of_le (by omega)] at hn
    simp at hn
    simp [hn]
  | succ d ih =>
    intro i k n hi hk h0 h60 hn
    obtain ⟨k, rfl⟩ := kp hk
    obtain ⟨hr, hm⟩ := rowOf l _ (rd_L2_in (show i < (clusR l).length by omega))
    have hb := wTotal_bounds (rd_L2 (clusR l) (i : Int))
    rw [prolepsislaw03_WidthClusters.l0, if_pos (by omega), if_pos (by omega), if_pos (by omega), rd_L3_eq, Same_ok _ (fun x hx => h32 x (hm x hx)) (by omega) k (by omega)]
    simp only [Option.bind_some]
    rw [if_pos trivial, Total_ok _ k (by omega) (by omega)]
    simp only [Option.bind_some]
    rw [w64 (by omega) (by omega), w64 (by omega) (by omega), cast1, ih (i + 1) k _ (by omega) (by omega) (by omega) (by omega) ?_]
    rw [drop_L2 (show i < (clusR l).length by omega), List.map_cons, List.sum_cons] at hn
    omega
theorem WidthClusters : prolepsislaw03_WidthClusters.Pure := by
  intro l hm hs hw
  have h32 : ∀ x ∈ l, -2147483648 ≤ x ∧ x ≤ 2147483647 := fun x hx => in32 (hw x hx)
  refine ⟨1000000, ?_⟩
  have hn := mn_len (n := l.length) (c := 30) (by omega)
  unfold prolepsislaw03_WidthClusters.f
  rw [if_pos hn.1, if_pos hn.2.1]
  have h32' : ∀ x ∈ l.take (mn (l.length : Int) 30).toNat, -2147483648 ≤ x ∧ x ≤ 2147483647 := fun x hx => h32 x (List.mem_of_mem_take hx)
  have hl : (l.take (mn (l.length : Int) 30).toNat).length ≤ 30 := by rw [List.length_take]; omega
  generalize l.take (mn (l.length : Int) 30).toNat = L at *
  rw [Clus_ok L _ (by omega) (by omega), Ints_ok L h32' (by omega) _ (by omega)]
  simp only [Option.bind_some]
  rw [rClus_ok L (by omega) _ (by omega)]
  simp only [Option.bind_some]
  rw [if_pos trivial]
  exact Law_l L h32' hl (clusR L).length 0 _ 0 (by omega) (by have := clus_len L; omega) (by omega) (by omega) (by rw [List.drop_zero, clus_total]; omega)
end Go.Proofs.Ytglcopljhanhmaa.Pure
