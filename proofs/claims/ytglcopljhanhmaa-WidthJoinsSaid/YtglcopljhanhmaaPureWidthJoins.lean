/- WidthJoins: the total of runes, one behind the other, is that of both; what fits of them is no less than of the first ones. No condition. -/
import Derived.Test.YtglcopljhanhmaaPWidthJoinsx2
import Derived.OpenShut
namespace Go.Proofs.Ytglcopljhanhmaa.Pure
open Go.RowKit Go.Proofs.Ytglcopljhanhmaa.PWidthJoins Go.Proofs.YtglcopljhanhmaaW.PrintWords Go.Proofs.YtglcopljhanhmaaW.PrintLast Go.Proofs.YtglcopljhanhmaaW.PrintMore
theorem w64 {x : Int} (h0 : -9223372036854775808 ≤ x) (h1 : x < 9223372036854775808) : wrap64 x = x := by unfold wrap64; omega
theorem kp {d k : Nat} (h : d < k) : ∃ m, k = m + 1 := ⟨k - 1, by omega⟩
theorem drop_rd {xs : List Int} {i : Nat} (h : i < xs.length) : xs.drop i = rd xs (i : Int) :: xs.drop (i + 1) := by
  rw [List.drop_eq_getElem_cons h]
  simp [rd, List.getD_eq_getElem?_getD, h]
theorem rd_in {xs : List Int} {i : Nat} (h : i < xs.length) : rd xs (i : Int) ∈ xs := by
  simp [rd, List.getD_eq_getElem?_getD, h]
theorem cast1 (i : Nat) : ((i : Int) + 1) = ((i + 1 : Nat) : Int) := by omega
theorem wOf_bounds (r : Int) : -1 ≤ wOf r ∧ wOf r ≤ 2 := by unfold wOf; split <;> (try split) <;> (try split) <;> omega
theorem wPos_bounds (r : Int) : 0 ≤ wPos r ∧ wPos r ≤ 2 := by have := wOf_bounds r; unfold wPos; split <;> omega
theorem mx_pos (r : Int) : mx 0 (wOf r) = wPos r := by unfold mx wPos; by_cases h : 0 < wOf r <;> simp [h]
theorem wTotal_cons (r : Int) (t : List Int) : wTotal (r :: t) = wPos r + wTotal t := by simp [wTotal]
theorem wTotal_nil : wTotal [] = 0 := rfl
theorem wTotal_append (a b : List Int) : wTotal (a ++ b) = wTotal a + wTotal b := by simp [wTotal]
theorem wTotal_bounds (l : List Int) : 0 ≤ wTotal l ∧ wTotal l ≤ 2 * l.length := by
  induction l with
  | nil => simp [wTotal_nil]
  | cons r t ih => have := wPos_bounds r; rw [wTotal_cons, List.length_cons]; omega
theorem Total_l (l : List Int) : ∀ (d i : Nat) (n : Int) (k : Nat), i + d = l.length → d < k → 0 ≤ n → n + 2 * d ≤ 4611686018427387904 → l.length ≤ 4611686018427387904 →
    width_Total.l0 k n l (l.length : Int) (i : Int) = some (n + wTotal (l.drop i)) := by
  intro d
  induction d with
  | zero =>
    intro i n k hi hk h0 h1 hl
    obtain ⟨k, rfl⟩ := kp hk
    rw [width_Total.l0, if_neg (by omega), List.drop_eq_nil_of_le (by omega)]
    simp [wTotal_nil]
  | succ d ih =>
    intro i n k hi hk h0 h1 hl
    obtain ⟨k, rfl⟩ := kp hk
    rw [width_Total.l0, if_pos (by omega), if_pos (by omega), if_pos (by omega)]
    have hp := wPos_bounds (rd l i)
    show width_Total.l0 k (wrap64 (n + mx 0 (wOf (rd l i)))) l l.length (wrap64 (i + 1)) = _
    rw [mx_pos, w64 (by omega) (by omega), w64 (by omega) (by omega), cast1, ih (i + 1) (n + wPos (rd l i)) k (by omega) (by omega) (by omega) (by omega) hl, drop_rd (show i < l.length by omega), wTotal_cons]
    congr 1; omega
theorem Total_ok (l : List Int) (k : Nat) (hk : l.length < k) (hl : l.length ≤ 1000000) : width_Total.f k l = some (wTotal l) := by
  unfold width_Total.f
  have := Total_l l l.length 0 0 k (by omega) hk (by omega) (by omega) (by omega)
  simpa using this
/-- The clusters of runes. -/
def clusR : List Int → List (List Int)
  | [] => []
  | r :: t => if wOf r < 1 then clusR t else (r :: t.takeWhile (fun x => wOf x == 0)) :: clusR t
theorem set_last {α : Type} (o : List α) (c x : α) : (o ++ [c]).set o.length x = o ++ [x] := by simp
theorem last_L2 (o : List (List Int)) (c : List Int) : rd_L2 (o ++ [c]) (o.length : Int) = c := by simp [rd_L2]
theorem Clus_l (l : List Int) (hl : l.length ≤ 1000000) : ∀ (d i k : Nat), i + d = l.length → d < k →
    (∀ o, o.length + d ≤ 2000000 → width_Clusters.l0 k o false l (l.length : Int) (i : Int) = some (o ++ clusR (l.drop i))) ∧
    (∀ o c, o.length + 1 + d ≤ 2000000 → c.length + d ≤ 2000000 → width_Clusters.l0 k (o ++ [c]) true l (l.length : Int) (i : Int) = some (o ++ [c ++ (l.drop i).takeWhile (fun x => wOf x == 0)] ++ clusR (l.drop i))) := by
  intro d
  induction d with
  | zero =>
    intro i k hi hk
    obtain ⟨k, rfl⟩ := kp hk
    refine ⟨fun o ho => ?_, fun o c ho hc => ?_⟩
    · rw [width_Clusters.l0, if_neg (by omega), List.drop_eq_nil_of_le (by omega)]; simp [clusR]
    · rw [width_Clusters.l0, if_neg (by omega), List.drop_eq_nil_of_le (by omega)]; simp [clusR]
  | succ d ih =>
    intro i k hi hk
    obtain ⟨k, rfl⟩ := kp hk
    obtain ⟨ihf, iht⟩ := ih (i + 1) k (by omega) (by omega)
    have hb := wOf_bounds (rd l i)
    have hd := drop_rd (show i < l.length by omega)
    refine ⟨fun o ho => ?_, fun o c ho hc => ?_⟩
    · rw [width_Clusters.l0, if_pos (by omega), if_pos (by omega), if_pos (by omega), show width_Of.f (rd l i) = some (wOf (rd l i)) from rfl]
      simp only [Option.bind_some]
      rw [w64 (by omega) (by omega), cast1, hd]
      by_cases h1 : wOf (rd l i) < 0
      · rw [if_pos h1, ihf o (by omega), clusR, if_pos (by omega)]
      · rw [if_neg h1]
        by_cases h2 : wOf (rd l i) > 0
        · rw [if_pos h2, if_pos (by omega), iht o [rd l i] (by omega) (by simp; omega), clusR, if_neg (by omega)]
          simp
        · rw [if_neg h2, if_neg (by simp), ihf o (by omega), clusR, if_pos (by omega)]
    · rw [width_Clusters.l0, if_pos (by omega), if_pos (by omega), if_pos (by omega), show width_Of.f (rd l i) = some (wOf (rd l i)) from rfl]
      simp only [Option.bind_some]
      rw [w64 (x := (i : Int) + 1) (by omega) (by omega), cast1, hd]
      by_cases h1 : wOf (rd l i) < 0
      · rw [if_pos h1, ihf (o ++ [c]) (by simp; omega), clusR, if_pos (by omega), List.takeWhile_cons_of_neg (by simp; omega)]
        simp
      · rw [if_neg h1]
        by_cases h2 : wOf (rd l i) > 0
        · rw [if_pos h2, if_pos (by simp; omega), iht (o ++ [c]) [rd l i] (by simp; omega) (by simp; omega), clusR, if_neg (by omega), List.takeWhile_cons_of_neg (by simp; omega)]
          simp
        · have hlen : (((o ++ [c]).length : Int) - 1) = (o.length : Int) := by simp
          rw [if_neg h2, if_pos trivial, hlen, w64 (x := (o.length : Int)) (by omega) (by omega), if_pos (by omega), if_pos (by simp; omega), last_L2, if_pos (by omega), Int.toNat_natCast, set_last,
            iht o (c ++ [rd l i]) (by omega) (by simp; omega), clusR, if_pos (by omega), List.takeWhile_cons_of_pos (by simp; omega)]
          simp
theorem Clus_ok (l : List Int) (k : Nat) (hk : l.length < k) (hl : l.length ≤ 1000000) : width_Clusters.f k l = some (clusR l) := by
  unfold width_Clusters.f
  have := (Clus_l l hl l.length 0 k (by omega) hk).1 [] (by simp; omega)
  simpa using this
theorem known_ok (k : Nat) (hk : 10 < k) : prolepsislaw03_known.f k = some true := by
  unfold prolepsislaw03_known.f
  rw [show width_Of.f 97 = some 1 by decide +kernel, show width_Of.f 12354 = some 2 by decide +kernel, show width_Of.f 769 = some 0 by decide +kernel, show width_Of.f 27 = some (-1) by decide +kernel, Clus_ok _ k (by simp; omega) (by simp)]
  decide +kernel
/-- How many runes have room. -/
def fitN (n : Int) : List Int → Nat
  | [] => 0
  | r :: t => if n - wPos r < 0 then 0 else fitN (n - wPos r) t + 1
theorem fitN_le (l : List Int) : ∀ n, fitN n l ≤ l.length := by
  induction l with
  | nil => intro n; simp [fitN]
  | cons r t ih => intro n; rw [fitN]; split <;> simp; exact ih _
theorem fitN_mono (l : List Int) : ∀ n m, n ≤ m → fitN n l ≤ fitN m l := by
  induction l with
  | nil => intro n m h; simp [fitN]
  | cons r t ih =>
    intro n m h
    rw [fitN, fitN]
    split
    · omega
    · rw [if_neg (by omega)]; have := ih (n - wPos r) (m - wPos r) (by omega); omega
theorem fitN_total (l : List Int) : ∀ n, 0 ≤ n → wTotal (l.take (fitN n l)) ≤ n := by
  induction l with
  | nil => intro n h; simp [fitN, wTotal_nil]; exact h
  | cons r t ih =>
    intro n h
    rw [fitN]
    split
    · rw [List.take_zero, wTotal_nil]; exact h
    · have := ih (n - wPos r) (by omega); rw [List.take_succ_cons, wTotal_cons]; omega
theorem fitN_append (a b : List Int) : ∀ n, fitN n a ≤ fitN n (a ++ b) := by
  induction a with
  | nil => intro n; simp [fitN]
  | cons r t ih => intro n; rw [List.cons_append, fitN, fitN]; have := ih (n - wPos r); split <;> omega
theorem fitN_all (l : List Int) : ∀ n, 2 * (l.length : Int) ≤ n → fitN n l = l.length := by
  induction l with
  | nil => intro n h; rfl
  | cons r t ih =>
    intro n h
    have hb := wPos_bounds r
    rw [List.length_cons] at h
    rw [fitN, if_neg (by omega), ih _ (by omega), List.length_cons]
theorem Fit_l (l : List Int) (hl : l.length ≤ 1000000) : ∀ (d i k : Nat) (n : Int), i + d = l.length → d < k → 0 ≤ n → n ≤ 9223372036854775807 → width_Fit.l0 k n l l (l.length : Int) (i : Int) = some ((i + fitN n (l.drop i) : Nat) : Int) := by
  intro d
  induction d with
  | zero =>
    intro i k n hi hk h0 h1
    obtain ⟨k, rfl⟩ := kp hk
    rw [width_Fit.l0, if_neg (by omega), List.drop_eq_nil_of_le (by omega)]
    simp [fitN]; omega
  | succ d ih =>
    intro i k n hi hk h0 h1
    obtain ⟨k, rfl⟩ := kp hk
    have hp := wPos_bounds (rd l i)
    rw [width_Fit.l0, if_pos (by omega), if_pos (by omega), if_pos (by omega), show width_Of.f (rd l i) = some (wOf (rd l i)) from rfl]
    simp only [Option.bind_some]
    rw [mx_pos, w64 (by omega) (by omega), w64 (x := (i : Int) + 1) (by omega) (by omega), cast1, drop_rd (show i < l.length by omega), fitN]
    by_cases h : n - wPos (rd l i) < 0
    · rw [if_pos h, if_pos h]; rfl
    · rw [if_neg h, if_neg h, ih (i + 1) k _ (by omega) (by omega) (by omega) (by omega)]
      congr 1; omega
def fitZ (n : Int) (l : List Int) : Int := if n < 0 then 0 else (fitN n l : Int)
theorem Fit_ok (l : List Int) (hl : l.length ≤ 1000000) (n : Int) (h1 : n ≤ 9223372036854775807) (k : Nat) (hk : l.length < k) : width_Fit.f k n l = some (fitZ n l) := by
  unfold width_Fit.f fitZ
  by_cases h : n < 0
  · rw [if_pos h, if_pos h]
  · rw [if_neg h, if_neg h]
    have := Fit_l l hl l.length 0 k n (by omega) hk (by omega) h1
    simpa using this
theorem mn_len {n : Nat} {c : Int} (hc : 0 ≤ c) : 0 ≤ mn (n : Int) c ∧ mn (n : Int) c ≤ n ∧ mn (n : Int) c ≤ c := by unfold mn; split <;> omega
theorem WidthJoins : prolepsislaw03_WidthJoins.Pure := by
  intro a b n ha1 ha2 ha3 hb1 hb2 hb3 hn
  have hn := bounds_i64 hn
  refine ⟨1000, ?_⟩
  have h1 := mn_len (n := a.length) (c := 20) (by omega)
  have h2 := mn_len (n := b.length) (c := 20) (by omega)
  unfold prolepsislaw03_WidthJoins.f
  rw [if_pos h1.1, if_pos h1.2.1, if_pos h2.1, if_pos h2.2.1]
  have hl1 : (a.take (mn (a.length : Int) 20).toNat).length ≤ 20 := by rw [List.length_take]; omega
  have hl2 : (b.take (mn (b.length : Int) 20).toNat).length ≤ 20 := by rw [List.length_take]; omega
  generalize a.take (mn (a.length : Int) 20).toNat = A at *
  generalize b.take (mn (b.length : Int) 20).toNat = B at *
  have hl : (A ++ B).length = A.length + B.length := List.length_append
  simp only [Option.bind_some, List.nil_append, List.length_nil]
  rw [if_pos (by omega), if_pos (by omega), known_ok _ (by omega), Total_ok _ _ (by omega) (by omega), Total_ok A _ (by omega) (by omega), Total_ok B _ (by omega) (by omega)]
  simp only [Option.bind_some]
  have b1 := wTotal_bounds A
  have b2 := wTotal_bounds B
  rw [if_pos trivial, w64 (by omega) (by omega), wTotal_append, if_pos rfl, Fit_ok _ (by omega) n (by omega) _ (by omega), Fit_ok A (by omega) n (by omega) _ (by omega)]
  simp only [Option.bind_some]
  have hle : fitZ n A ≤ fitZ n (A ++ B) := by unfold fitZ; split; omega; have := fitN_append A B n; omega
  rw [if_pos hle]
  by_cases h80 : n < 80
  · rw [if_pos h80]
  · rw [if_neg h80]
    have : fitZ n (A ++ B) = ((A ++ B).length : Int) := by unfold fitZ; rw [if_neg (by omega), fitN_all _ n (by omega)]
    simp [this]
end Go.Proofs.Ytglcopljhanhmaa.Pure
