/- CellStays, the plain part: what is made of what is right is right; a right cell's runes are one cluster of its width, if it has some. No condition but that the numbers are of their kinds. -/
import Derived.Test.YtblcmcdifgclcaaPCellStaysL
import Derived.OpenShut
namespace Go.Proofs.Ytblcmcdifgclcaa.Pure
open Go.RowKit Go.Proofs.Ytblcmcdifgclcaa.PCellStays Go.Proofs.YtblcmcdifgclcaaW.PrintWords Go.Proofs.YtblcmcdifgclcaaW.PrintLast Go.Proofs.YtblcmcdifgclcaaW.PrintMore
theorem w64 {x : Int} (h0 : -9223372036854775808 ≤ x) (h1 : x < 9223372036854775808) : wrap64 x = x := by unfold wrap64; omega
theorem kp {d k : Nat} (h : d < k) : ∃ m, k = m + 1 := ⟨k - 1, by omega⟩
theorem drop_rd {xs : List Int} {i : Nat} (h : i < xs.length) : xs.drop i = rd xs (i : Int) :: xs.drop (i + 1) := by
  rw [List.drop_eq_getElem_cons h]
  simp [rd, List.getD_eq_getElem?_getD, h]
theorem rd_in {xs : List Int} {i : Nat} (h : i < xs.length) : rd xs (i : Int) ∈ xs := by
  simp [rd, List.getD_eq_getElem?_getD, h]
theorem cast1 (i : Nat) : ((i : Int) + 1) = ((i + 1 : Nat) : Int) := by omega
theorem wOf_bounds (r : Int) : -1 ≤ wOf r ∧ wOf r ≤ 2 := by unfold wOf; split <;> (try split) <;> (try split) <;> omega
theorem wPos_bounds (r : Int) : 0 ≤ wPos r ∧ wPos r ≤ 2 := by have := wOf_bounds r; unfold wPos; split <;> omega
theorem mx_pos (r : Int) : mx 0 (wOf r) = wPos r := by unfold mx wPos; by_cases h : 0 < wOf r <;> simp [h]
theorem wTotal_cons (r : Int) (t : List Int) : wTotal (r :: t) = wPos r + wTotal t := by simp [wTotal]
theorem wTotal_nil : wTotal [] = 0 := rfl
theorem wTotal_append (a b : List Int) : wTotal (a ++ b) = wTotal a + wTotal b := by simp [wTotal]
theorem wTotal_bounds (l : List Int) : 0 ≤ wTotal l ∧ wTotal l ≤ 2 * l.length := by
  induction l with
  | nil => simp [wTotal_nil]
  | cons r t ih => have := wPos_bounds r; rw [wTotal_cons, List.length_cons]; omega
theorem Total_l (l : List Int) : ∀ (d i : Nat) (n : Int) (k : Nat), i + d = l.length → d < k → 0 ≤ n → n + 2 * d ≤ 4611686018427387904 → l.length ≤ 4611686018427387904 →
    width_Total.l0 k n l (l.length : Int) (i : Int) = some (n + wTotal (l.drop i)) := by
  intro d
  induction d with
  | zero =>
    intro i n k hi hk h0 h1 hl
    obtain ⟨k, rfl⟩ := kp hk
    rw [width_Total.l0, if_neg (by omega), List.drop_eq_nil_of_le (by omega)]
    simp [wTotal_nil]
  | succ d ih =>
    intro i n k hi hk h0 h1 hl
    obtain ⟨k, rfl⟩ := kp hk
    rw [width_Total.l0, if_pos (by omega), if_pos (by omega), if_pos (by omega)]
    have hp := wPos_bounds (rd l i)
    show width_Total.l0 k (wrap64 (n + mx 0 (wOf (rd l i)))) l l.length (wrap64 (i + 1)) = _
    rw [mx_pos, w64 (by omega) (by omega), w64 (by omega) (by omega), cast1, ih (i + 1) (n + wPos (rd l i)) k (by omega) (by omega) (by omega) (by omega) hl, drop_rd (show i < l.length by omega), wTotal_cons]
    congr 1; omega
theorem Total_ok (l : List Int) (k : Nat) (hk : l.length < k) (hl : l.length ≤ 1000000) : width_Total.f k l = some (wTotal l) := by
  unfold width_Total.f
  have := Total_l l l.length 0 0 k (by omega) hk (by omega) (by omega) (by omega)
  simpa using this
/-- The clusters of runes. -/
def clusR : List Int → List (List Int)
  | [] => []
  | r :: t => if wOf r < 1 then clusR t else (r :: t.takeWhile (fun x => wOf x == 0)) :: clusR t
theorem set_last {α : Type} (o : List α) (c x : α) : (o ++ [c]).set o.length x = o ++ [x] := by simp
theorem last_L2 (o : List (List Int)) (c : List Int) : rd_L2 (o ++ [c]) (o.length : Int) = c := by simp [rd_L2]
theorem Clus_l (l : List Int) (hl : l.length ≤ 1000000) : ∀ (d i k : Nat), i + d = l.length → d < k →
    (∀ o, o.length + d ≤ 2000000 → width_Clusters.l0 k o false l (l.length : Int) (i : Int) = some (o ++ clusR (l.drop i))) ∧
    (∀ o c, o.length + 1 + d ≤ 2000000 → c.length + d ≤ 2000000 → width_Clusters.l0 k (o ++ [c]) true l (l.length : Int) (i : Int) = some (o ++ [c ++ (l.drop i).takeWhile (fun x => wOf x == 0)] ++ clusR (l.drop i))) := by
  intro d
  induction d with
  | zero =>
    intro i k hi hk
    obtain ⟨k, rfl⟩ := kp hk
    refine ⟨fun o ho => ?_, fun o c ho hc => ?_⟩
    · rw [width_Clusters.l0, if_neg (by omega), List.drop_eq_nil_of_le (by omega)]; simp [clusR]
    · rw [width_Clusters.l0, if_neg (by omega), List.drop_eq_nil_of_le (by omega)]; simp [clusR]
  | succ d ih =>
    intro i k hi hk
    obtain ⟨k, rfl⟩ := kp hk
    obtain ⟨ihf, iht⟩ := ih (i + 1) k (by omega) (by omega)
    have hb := wOf_bounds (rd l i)
    have hd := drop_rd (show i < l.length by omega)
    refine ⟨fun o ho => ?_, fun o c ho hc => ?_⟩
    · rw [width_Clusters.l0, if_pos (by omega), if_pos (by omega), if_pos (by omega), show width_Of.f (rd l i) = some (wOf (rd l i)) from rfl]
      simp only [Option.bind_some]
      rw [w64 (by omega) (by omega), cast1, hd]
      by_cases h1 : wOf (rd l i) < 0
      · rw [if_pos h1, ihf o (by omega), clusR, if_pos (by omega)]
      · rw [if_neg h1]
        by_cases h2 : wOf (rd l i) > 0
        · rw [if_pos h2, if_pos (by omega), iht o [rd l i] (by omega) (by simp; omega), clusR, if_neg (by omega)]
          simp
        · rw [if_neg h2, if_neg (by simp), ihf o (by omega), clusR, if_pos (by omega)]
    · rw [width_Clusters.l0, if_pos (by omega), if_pos (by omega), if_pos (by omega), show width_Of.f (rd l i) = some (wOf (rd l i)) from rfl]
      simp only [Option.bind_some]
      rw [w64 (x := (i : Int) + 1) (by omega) (by omega), cast1, hd]
      by_cases h1 : wOf (rd l i) < 0
      · rw [if_pos h1, ihf (o ++ [c]) (by simp; omega), clusR, if_pos (by omega), List.takeWhile_cons_of_neg (by simp; omega)]
        simp
      · rw [if_neg h1]
        by_cases h2 : wOf (rd l i) > 0
        · rw [if_pos h2, if_pos (by simp; omega), iht (o ++ [c]) [rd l i] (by simp; omega) (by simp; omega), clusR, if_neg (by omega), List.takeWhile_cons_of_neg (by simp; omega)]
          simp
        · have hlen : (((o ++ [c]).length : Int) - 1) = (o.length : Int) := by simp
          rw [if_neg h2, if_pos trivial, hlen, w64 (x := (o.length : Int)) (by omega) (by omega), if_pos (by omega), if_pos (by simp; omega), last_L2, if_pos (by omega), Int.toNat_natCast, set_last,
            iht o (c ++ [rd l i]) (by omega) (by simp; omega), clusR, if_pos (by omega), List.takeWhile_cons_of_pos (by simp; omega)]
          simp
theorem Clus_ok (l : List Int) (k : Nat) (hk : l.length < k) (hl : l.length ≤ 1000000) : width_Clusters.f k l = some (clusR l) := by
  unfold width_Clusters.f
  have := (Clus_l l hl l.length 0 k (by omega) hk).1 [] (by simp; omega)
  simpa using this
theorem known_ok : prolepsislaw05_known.f = some true := by decide +kernel
theorem cR (c0 c1 c2 c3 c4 c5 c6 : Int) (h : 0 ≤ c3 ∧ c3 ≤ 255) : cell_Right.f c0 c1 c2 c3 c4 c5 c6 = some (rightC c0 c1 c2 c3 c4 c5 c6) := by unfold cell_Right.f; rw [if_pos h]
theorem pR (a b c : Int) : pen_Right.f a b c = some (penR a b c) := by
  unfold pen_Right.f penR
  by_cases h1 : a < 32 <;> by_cases h2 : b < 17 <;> simp [h1, h2]
/-- What it is that a cell is right. -/
theorem right_iff (c0 c1 c2 c3 c4 c5 c6 : Int) : rightC c0 c1 c2 c3 c4 c5 c6 = true ↔ penR c4 c5 c6 = true ∧ ((c3 = 0 ∧ c0 = 0 ∧ c1 = 0 ∧ c2 = 0) ∨ (c3 ≠ 0 ∧ c3 ≤ 2 ∧ wOf c0 = c3 ∧ tailC c1 c2 = true)) := by
  unfold rightC
  by_cases h : c3 = 0
  · rw [if_pos h]; simp [h]
  · rw [if_neg h]; simp [h]
theorem tail_iff (c1 c2 : Int) : tailC c1 c2 = true ↔ (c1 = 0 ∧ c2 = 0) ∨ (c1 ≠ 0 ∧ wOf c1 = 0 ∧ (c2 = 0 ∨ wOf c2 = 0)) := by
  unfold tailC
  by_cases h : c1 = 0
  · rw [if_pos h]; simp [h]
  · rw [if_neg h]; simp [h]
theorem wOf_zero : wOf 0 = -1 := by decide
theorem j1_ok (c0 c1 c2 c3 c4 c5 c6 : Int) (h8 : 0 ≤ c3 ∧ c3 ≤ 255) (hr : rightC c0 c1 c2 c3 c4 c5 c6 = true) : prolepsislaw05_CellStays.j1 50 false c0 c1 c2 c3 c4 c5 c6 = some true := by
  rw [prolepsislaw05_CellStays.j1, if_neg (by simp), show cell_Runes.f c0 c1 c2 c3 c4 c5 c6 = some (runesC c0 c1 c2 c3) from rfl]
  simp only [Option.bind_some]
  rw [known_ok]
  simp only [Option.bind_some]
  rw [right_iff] at hr
  obtain ⟨-, ⟨h3, -, -, -⟩ | ⟨h3, h32, hw, ht⟩⟩ := hr
  · rw [if_pos h3, if_pos trivial, runesC, if_neg (by omega)]; rfl
  · have hb := wOf_bounds c0
    have h12 : c3 = 1 ∨ c3 = 2 := by omega
    rw [if_neg h3, if_pos trivial, runesC, if_pos h12]
    have hn : ∀ x, x ∈ nzs [c1, c2] → wOf x = 0 := by
      intro x hx
      rw [tail_iff] at ht
      unfold nzs nz at hx
      by_cases a : c1 = 0 <;> by_cases b : c2 = 0 <;> simp [a, b] at hx ht
      · rw [hx]; exact ht
      · rcases hx with rfl | rfl
        · exact ht.1
        · exact ht.2
    have hlen := nzs_len c0 [c1, c2] (by simp)
    rw [Total_ok _ 49 (by omega) (by omega)]
    simp only [Option.bind_some]
    have hz : ∀ l : List Int, (∀ x ∈ l, wOf x = 0) → wTotal l = 0 ∧ clusR l = [] := by
      intro l
      induction l with
      | nil => intro _; exact ⟨rfl, rfl⟩
      | cons a t ih =>
        intro h
        obtain ⟨h1, h2⟩ := ih (fun x hx => h x (by simp [hx]))
        have ha := h a (by simp)
        refine ⟨by rw [wTotal_cons, h1]; simp [wPos, ha], by rw [clusR, if_pos (by omega), h2]⟩
    obtain ⟨z1, z2⟩ := hz _ hn
    rw [wTotal_append, z1, show wTotal [c0] = c3 by rw [wTotal_cons, wTotal_nil]; unfold wPos; rw [if_pos (by omega)]; omega, w64 (by omega) (by omega), if_pos (by omega), Clus_ok _ 49 (by omega) (by omega)]
    simp only [Option.bind_some, List.singleton_append]
    rw [clusR, if_neg (by omega), z2]
    rfl
theorem CellStays_true (c0 c1 c2 c3 c4 c5 c6 r p0 p1 p2 : Int) (h8 : 0 ≤ c3 ∧ c3 ≤ 255) : prolepsislaw05_CellStays.f 51 c0 c1 c2 c3 c4 c5 c6 r p0 p1 p2 = some true := by
  have jt : prolepsislaw05_CellStays.j0 51 r true c0 c1 c2 c3 c4 c5 c6 p0 p1 p2 = some true := by
    rw [prolepsislaw05_CellStays.j0, if_pos rfl, known_ok]; rfl
  unfold prolepsislaw05_CellStays.f
  rw [cR _ _ _ _ _ _ _ h8]
  simp only [Option.bind_some]
  cases hc : rightC c0 c1 c2 c3 c4 c5 c6
  · rw [if_neg (by simp)]; exact jt
  · rw [if_pos rfl, pR]
    simp only [Option.bind_some]
    cases hp : penR p0 p1 p2
    · exact jt
    · have hb := wOf_bounds r
      have hcr := (right_iff _ _ _ _ _ _ _).1 hc
      have hmark : ∃ a0 a1 a2 a3 a4 a5 a6 a7, markC c0 c1 c2 c3 c4 c5 c6 r = (a0, a1, a2, a3, a4, a5, a6, a7) ∧ (0 ≤ a3 ∧ a3 ≤ 255) ∧ rightC a0 a1 a2 a3 a4 a5 a6 = true := by
        unfold markC
        by_cases hm : wOf r = 0 ∧ (c3 = 1 ∨ c3 = 2)
        · rw [if_pos hm]
          obtain ⟨hpc, ⟨h3, -, -, -⟩ | ⟨h3, h32, hw, ht⟩⟩ := hcr
          · omega
          · rw [tail_iff] at ht
            have hr0 : r ≠ 0 := by intro e; rw [e, wOf_zero] at hm; omega
            by_cases a : c1 = 0
            · rw [if_pos a]
              refine ⟨_, _, _, _, _, _, _, _, rfl, h8, ?_⟩
              rw [right_iff, tail_iff]
              exact ⟨hpc, .inr ⟨h3, h32, hw, .inr ⟨hr0, hm.1, .inl (by omega)⟩⟩⟩
            · rw [if_neg a]
              by_cases b : c2 = 0
              · rw [if_pos b]
                refine ⟨_, _, _, _, _, _, _, _, rfl, h8, ?_⟩
                rw [right_iff, tail_iff]
                exact ⟨hpc, .inr ⟨h3, h32, hw, .inr ⟨a, by omega, .inr hm.1⟩⟩⟩
              · rw [if_neg b]
                exact ⟨_, _, _, _, _, _, _, _, rfl, h8, hc⟩
        · rw [if_neg hm]
          exact ⟨_, _, _, _, _, _, _, _, rfl, h8, hc⟩
      obtain ⟨a0, a1, a2, a3, a4, a5, a6, a7, em, hm8, hmr⟩ := hmark
      have hrest : rightC 0 0 0 0 c4 c5 c6 = true := by rw [right_iff]; exact ⟨hcr.1, .inl ⟨rfl, rfl, rfl, rfl⟩⟩
      have hblank : rightC 32 0 0 1 p0 p1 p2 = true := by rw [right_iff]; exact ⟨hp, .inr ⟨by omega, by omega, by decide, by decide⟩⟩
      have hwith : rightC c0 c1 c2 c3 p0 p1 p2 = true := by rw [right_iff]; exact ⟨hp, hcr.2⟩
      have j1 := j1_ok c0 c1 c2 c3 c4 c5 c6 h8 hc
      have hof : wOf r < 1 ∨ rightC r 0 0 (wOf r % 256) p0 p1 p2 = true := by
        by_cases h : wOf r < 1
        · exact .inl h
        · right; rw [right_iff]; exact ⟨hp, .inr ⟨by omega, by omega, by omega, by decide⟩⟩
      rw [show (!true) = false from rfl, prolepsislaw05_CellStays.j0, if_neg (by simp)]
      simp only [cell_Of.f, width_Of.f, cell_Mark.f, em, Option.bind_some, cell_Rest.f, cell_Blank.f, cell_With.f]
      by_cases hlt : wOf r < 1
      · rw [if_pos hlt]
        simp only [Option.bind_some]
        rw [if_neg (by simp), cR _ _ _ _ _ _ _ hm8, hmr]
        simp only [Option.bind_some]
        rw [if_pos trivial, cR _ _ _ _ _ _ _ (by omega), hrest]
        simp only [Option.bind_some]
        rw [if_pos trivial, cR _ _ _ _ _ _ _ (by omega), hblank]
        simp only [Option.bind_some]
        rw [if_pos trivial, cR _ _ _ _ _ _ _ h8, hwith]
        exact j1
      · rw [if_neg hlt]
        simp only [Option.bind_some]
        rw [if_pos trivial, cR _ _ _ _ _ _ _ (by omega), show rightC r 0 0 (wOf r % 256) p0 p1 p2 = true by rcases hof with h | h; exact absurd h hlt; exact h]
        simp only [Option.bind_some]
        rw [if_pos trivial, cR _ _ _ _ _ _ _ hm8, hmr]
        simp only [Option.bind_some]
        rw [if_pos trivial, cR _ _ _ _ _ _ _ (by omega), hrest]
        simp only [Option.bind_some]
        rw [if_pos trivial, cR _ _ _ _ _ _ _ (by omega), hblank]
        simp only [Option.bind_some]
        rw [if_pos trivial, cR _ _ _ _ _ _ _ h8, hwith]
        exact j1
end Go.Proofs.Ytblcmcdifgclcaa.Pure
