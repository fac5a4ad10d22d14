/- What the law KeygramMany reaches answers true. -/
import Derived.Test.YtpephndecdkfhaaPKeygramManyx
namespace Go.Proofs.Ytpephndecdkfhaa.Pure
open Go.RowKit Go.Proofs.Ytpephndecdkfhaa.PKeygramMany Go.Proofs.YtpephndecdkfhaaW.PrintWords Go.Proofs.YtpephndecdkfhaaW.PrintLast Go.Proofs.Ytpephndecdkfhaa
set_option linter.unusedVariables false
set_option linter.unusedSimpArgs false
theorem rSize (r c : Int) : prolepsisref07_Size.f r c = some (decide ((1 ≤ r ∧ r ≤ 512) ∧ (1 ≤ c ∧ c ≤ 512))) := by
  unfold prolepsisref07_Size.f
  by_cases h1 : r ≥ 1
  · rw [if_pos h1]
    by_cases h2 : r ≤ 512
    · rw [if_pos h2]
      by_cases h3 : c ≥ 1
      · rw [if_pos h3]; simp [h1, h2, h3]
      · rw [if_neg h3, decide_eq_false (by omega)]
    · rw [if_neg h2, decide_eq_false (by omega)]
  · rw [if_neg h1, decide_eq_false (by omega)]
theorem rC_loop1 (sk : List ByteArray) (hl : sk.length < 1000000) (a s r c f : Int) (hf : 0 < f ∧ f < 18446744073709551616) : ∀ (d i k : Nat), i + d = sk.length → 1 ≤ i → d < k → f + ((i : Int) - 1) < 18446744073709551616 →
    prolepsisref14_Check.l1 k (f + ((i : Int) - 1)) (i : Int) a s r c f sk = some (if f > 18446744073709551615 - ((sk.length : Int) - 1) then 5 else 0)
  | 0, i, k + 1, hi, h1, hk, hb => by
    rw [prolepsisref14_Check.l1, if_neg (by omega), if_neg (by omega)]
  | d + 1, i, k + 1, hi, h1, hk, hb => by
    rw [prolepsisref14_Check.l1, if_pos (by omega)]
    by_cases hz : f + ((i : Int) - 1) = 18446744073709551615
    · rw [hz, if_pos (by decide), if_pos (by omega)]
    · rw [gCu (x := f + ((i : Int) - 1) + 1) (by omega) (by omega), if_neg (by omega), gC64 (by omega) (by omega), show f + ((i : Int) - 1) + 1 = f + (((i + 1 : Nat) : Int) - 1) by omega, show ((i : Int) + 1) = ((i + 1 : Nat) : Int) by omega]
      exact rC_loop1 sk hl a s r c f hf d (i + 1) k (by omega) (by omega) (by omega) (by omega)
theorem rC_loop0 (keys : List (List Int)) (hl : keys.length < 1000000) (a s r c f : Int) (hf : 0 < f ∧ f < 18446744073709551616) : ∀ (d i k : Nat), i + d = keys.length → d + keys.length + 2 < k →
    prolepsisref14_Check.l0 k (i : Int) a s r c f (keys.map strOfNums) = some (if kerr (keys.drop i) ≠ 0 then kerr (keys.drop i) else if 0 < keys.length ∧ f > 18446744073709551615 - ((keys.length : Int) - 1) then 5 else 0)
  | 0, i, k + 1, hi, hk => by
    have hm : (keys.map strOfNums).length = keys.length := List.length_map ..
    rw [prolepsisref14_Check.l0, if_neg (by rw [hm]; omega), List.drop_eq_nil_of_le (by omega)]
    simp only [kerr, ne_eq, not_true_eq_false, if_false]
    by_cases hp : 0 < keys.length
    · have := rC_loop1 (keys.map strOfNums) (by omega) a s r c f hf (keys.length - 1) 1 k (by omega) (by omega) (by omega) (by simp; omega)
      rw [show f + (((1 : Nat) : Int) - 1) = f by omega, hm] at this
      have this : prolepsisref14_Check.l1 k f 1 a s r c f (keys.map strOfNums) = _ := this
      rw [this]
      by_cases hq : f > 18446744073709551615 - ((keys.length : Int) - 1)
      · rw [if_pos hq, if_pos ⟨hp, hq⟩]
      · rw [if_neg hq, if_neg (fun h => hq h.2)]
    · obtain ⟨k, rfl⟩ : ∃ j, k = j + 1 := ⟨k - 1, by omega⟩
      rw [prolepsisref14_Check.l1, if_neg (by rw [hm]; omega), if_neg (fun h => hp h.1)]
  | d + 1, i, k + 1, hi, hk => by
    have hm : (keys.map strOfNums).length = keys.length := List.length_map ..
    have hlt : i < keys.length := by omega
    rw [prolepsisref14_Check.l0, if_pos (by rw [hm]; omega), if_pos (by omega)]
    have e : rdOf ByteArray.empty (keys.map strOfNums) (i : Int) = strOfNums keys[i] := by unfold rdOf; rw [Int.toNat_natCast, List.getD_eq_getElem?_getD, List.getElem?_map, List.getElem?_eq_getElem hlt]; rfl
    rw [e, List.drop_eq_getElem_cons hlt]
    have hsz : (strOfNums keys[i]).size = keys[i].length := by simp [strOfNums, ByteArray.size]
    have htl : (strOfNums keys[i]).toList = ([] : List UInt8) ↔ keys[i].length = 0 := by
      have hd : (strOfNums keys[i]).toList.length = keys[i].length := by rw [← hsz, ByteArray.toList_eq, Array.length_toList]; rfl
      rw [← hd]; exact ⟨fun h => by rw [h]; rfl, fun h => List.eq_nil_of_length_eq_zero h⟩
    by_cases h0 : (keys[i]).length = 0
    · rw [if_pos (htl.2 h0)]; simp [kerr, h0]
    · rw [if_neg (fun h => h0 (htl.1 h)), hsz]
      by_cases h8 : (keys[i]).length > 8
      · rw [if_pos (by omega)]; simp [kerr, h0, h8]
      · rw [if_neg (by omega), gC64 (by omega) (by omega), show ((i : Int) + 1) = ((i + 1 : Nat) : Int) by omega, rC_loop0 keys hl a s r c f hf d (i + 1) k (by omega) (by omega)]
        simp only [kerr, if_neg h0, if_neg h8]
theorem rC_ok (keys : List (List Int)) (hl : keys.length < 1000000) (a s r c f : Int) (hf : 0 ≤ f ∧ f < 18446744073709551616) (k : Nat) (hk : 2 * keys.length + 2 < k) : prolepsisref14_Check.f k a s r c f (keys.map strOfNums) = some (gcheck r c f keys) := by
  have hm : (keys.map strOfNums).length = keys.length := List.length_map ..
  unfold prolepsisref14_Check.f gcheck
  rw [rSize, Option.bind_some, hm]
  by_cases h1 : (1 ≤ r ∧ r ≤ 512) ∧ (1 ≤ c ∧ c ≤ 512)
  · rw [if_pos (decide_eq_true h1), if_neg (c := ¬(1 ≤ r ∧ r ≤ 512) ∨ ¬(1 ≤ c ∧ c ≤ 512)) (by omega)]
    by_cases h3 : f = 0
    · rw [if_pos h3, if_pos h3]
    · rw [if_neg h3, if_neg h3]
      by_cases h4 : keys.length > 64
      · rw [if_pos (c := (keys.length : Int) > 64) (by omega), if_pos h4]
      · rw [if_neg (c := (keys.length : Int) > 64) (by omega), if_neg h4]
        have := rC_loop0 keys hl a s r c f ⟨by omega, hf.2⟩ keys.length 0 k (by omega) (by omega)
        rw [List.drop_zero] at this
        exact this
  · rw [if_neg (by rw [decide_eq_false h1]; simp), if_pos (c := ¬(1 ≤ r ∧ r ≤ 512) ∨ ¬(1 ≤ c ∧ c ≤ 512)) (by omega)]
theorem Of_loop (keys : List (List Int)) (hl : keys.length < 1000000) (a s r c f : Int) : ∀ (d i k : Nat), i + d = keys.length → d < k →
    prolepsislaw14_Of.l0 k (i : Int) a s r c f keys a s r c f ((keys.take i).map strOfNums) = some (a, s, r, c, f, keys.map strOfNums)
  | 0, i, k + 1, hi, hk => by
    rw [prolepsislaw14_Of.l0, if_neg (by omega), List.take_of_length_le (by omega)]
  | d + 1, i, k + 1, hi, hk => by
    have hlt : i < keys.length := by omega
    have e : rd_L1 keys (i : Int) = keys[i] := by unfold rd_L1; rw [Int.toNat_natCast, List.getD_eq_getElem?_getD, List.getElem?_eq_getElem hlt]; rfl
    have e2 : (keys.take i).map strOfNums ++ [strOfNums keys[i]] = (keys.take (i + 1)).map strOfNums := by
      rw [List.take_add_one, List.getElem?_eq_getElem hlt, List.map_append]; rfl
    rw [prolepsislaw14_Of.l0, if_pos (by omega), if_pos (by omega), if_pos (by rw [List.length_map, List.length_take]; omega), e, e2, gC64 (by omega) (by omega), show ((i : Int) + 1) = ((i + 1 : Nat) : Int) by omega]
    exact Of_loop keys hl a s r c f d (i + 1) k (by omega) (by omega)
theorem Of_ok (keys : List (List Int)) (hl : keys.length < 1000000) (a s r c f : Int) (k : Nat) (hk : keys.length < k) : prolepsislaw14_Of.f k a s r c f keys = some (a, s, r, c, f, keys.map strOfNums) :=
  Of_loop keys hl a s r c f keys.length 0 k (by omega) hk
/-- The last key's number. -/
def glast (r c f : Int) (keys : List (List Int)) : Int := if gcheck r c f keys = 0 then (f - 1 + keys.length) else 0
theorem Last_ok (keys : List (List Int)) (hl : keys.length < 1000000) (a s r c f : Int) (hf : 0 ≤ f ∧ f < 18446744073709551616) (k : Nat) (hk : keys.length + 2 < k) : keygram_Last.f k a s r c f keys = some (glast r c f keys) := by
  unfold keygram_Last.f glast
  rw [gC_ok keys hl a s r c f hf k hk, Option.bind_some]
  by_cases h : gcheck r c f keys = 0
  · obtain ⟨-, -, hf0, -, -, hr⟩ := gcheck_ok h
    rw [if_pos h, if_pos h, gCu (x := (keys.length : Int)) (by omega) (by omega), gCu (x := f - 1) (by omega) (by omega), gCu (by omega) (by rcases Nat.eq_zero_or_pos keys.length with hp | hp <;> first | omega | (have := hr hp; omega))]
  · rw [if_neg h, if_neg h]
theorem rLast_ok (keys : List (List Int)) (hl : keys.length < 1000000) (a s r c f : Int) (hf : 0 ≤ f ∧ f < 18446744073709551616) (k : Nat) (hk : 2 * keys.length + 2 < k) : prolepsisref14_Last.f k a s r c f (keys.map strOfNums) = some (glast r c f keys) := by
  unfold prolepsisref14_Last.f glast
  rw [rC_ok keys hl a s r c f hf k hk, Option.bind_some, List.length_map]
  by_cases h : gcheck r c f keys = 0
  · rw [if_pos h, if_pos h]
    obtain ⟨-, -, hf0, hn, -, hr⟩ := gcheck_ok h
    rw [IntKind.wrap_u64, IntKind.wrap_u64, IntKind.wrap_u64]
    by_cases hp : 0 < keys.length
    · have := hr hp; congr 1; omega
    · congr 1; omega
  · rw [if_neg h, if_neg h]
theorem known14 (k : Nat) (hk : 5 < k) : prolepsislaw14_known.f k = some true := by
  unfold prolepsislaw14_known.f
  rw [Option.bind_some]
  have hb : keygram_Bytes.f 2 300 1 2 5 [[97]] = some (gbytes 2 300 1 2 5 [[97]], 0) := by
    unfold keygram_Bytes.f
    rw [if_pos (by decide), show gcheck 1 2 5 [[97]] = 0 from by decide, if_pos rfl]
  have hg : gbytes 2 300 1 2 5 [[97]] = [75, 2, 172, 2, 1, 2, 5, 1, 1, 97] := by
    simp [gbytes, gkey, encAll, encN]
  have hs : prolepsisref01_Same.f [75, 2, 172, 2, 1, 2, 5, 1, 1, 97] [75, 2, 172, 2, 1, 2, 5, 1, 1, 97] = some true := by unfold prolepsisref01_Same.f; simp
  rw [hb, Option.bind_some, hg]
  simp only [if_true]
  rw [hs, Option.bind_some]
  simp only [if_true]
  rw [Last_ok [[97]] (by decide) 2 300 1 2 5 (by decide) k (by simp; omega), Option.bind_some]
  rfl
theorem many_loop (a0 f : Int) (hf : 0 ≤ f ∧ f < 18446744073709551616) (n : Nat) (hn : n ≤ 70) (he : wrap64 (Int.tmod (IntKind.u64.wrap a0) 71) = (n : Int)) : ∀ (d i k : Nat), i + d = n → d + 1000 < k →
    prolepsislaw14_KeygramMany.l0 k a0 (i : Int) 0 0 1 1 f (List.replicate i [120]) = some true
  | 0, i, k + 1, hi, hk => by
    have hl : (List.replicate i ([120] : List Int)).length < 1000000 := by rw [List.length_replicate]; omega
    have hl2 : 2 * (List.replicate i ([120] : List Int)).length + 2 < k := by rw [List.length_replicate]; omega
    rw [prolepsislaw14_KeygramMany.l0, he, if_neg (by omega), known14 k (by omega), Option.bind_some, if_pos rfl, gC_ok _ hl 0 0 1 1 f hf k (by omega), Option.bind_some, Of_ok _ hl 0 0 1 1 f k (by omega), Option.bind_some]
    rw [rC_ok _ hl 0 0 1 1 f hf k hl2, Option.bind_some, if_pos rfl, Last_ok _ hl 0 0 1 1 f hf k (by omega), Option.bind_some, Option.bind_some, rLast_ok _ hl 0 0 1 1 f hf k hl2, Option.bind_some]
    simp
  | d + 1, i, k + 1, hi, hk => by
    rw [prolepsislaw14_KeygramMany.l0, he, if_pos (by omega), if_pos (by rw [List.length_replicate]; omega), ← List.replicate_succ', gC64 (by omega) (by omega), show ((i : Int) + 1) = ((i + 1 : Nat) : Int) by omega]
    exact many_loop a0 f hf n hn he d (i + 1) k (by omega) (by omega)
theorem KeygramMany : prolepsislaw14_KeygramMany.Pure := by
  intro a0 a1 w0 w1
  have h1 : 0 ≤ IntKind.u64.wrap a0 := by rw [IntKind.wrap_u64]; omega
  have h2 : Int.tmod (IntKind.u64.wrap a0) 71 = (IntKind.u64.wrap a0) % 71 := Int.tmod_eq_emod_of_nonneg h1
  refine ⟨2000, ?_⟩
  unfold prolepsislaw14_KeygramMany.f
  have hf : 0 ≤ IntKind.u64.wrap (18446744073709551615 - Int.tmod a1 70) ∧ IntKind.u64.wrap (18446744073709551615 - Int.tmod a1 70) < 18446744073709551616 := by rw [IntKind.wrap_u64]; omega
  exact many_loop a0 _ hf ((IntKind.u64.wrap a0) % 71).toNat (by omega) (by rw [h2, gC64 (by omega) (by omega)]; omega) ((IntKind.u64.wrap a0) % 71).toNat 0 2000 (by omega) (by omega)
end Go.Proofs.Ytpephndecdkfhaa.Pure
