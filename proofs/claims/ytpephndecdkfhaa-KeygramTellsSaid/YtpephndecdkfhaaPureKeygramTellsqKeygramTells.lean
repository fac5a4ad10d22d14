/- KeygramTells: what its proof leads to. No condition. -/
import Derived.Test.YtpephndecdkfhaaPKeygramTellsDqKeygramTells
import Derived.Test.YtpephndecdkfhaaKgEqKeygramTells
import Derived.Test.YtpephndecdkfhaaShortqKeygramTells
namespace Go.Proofs.Ytpephndecdkfhaa.Pure
open Go.RowKit Go.Proofs.Ytpephndecdkfhaa.PKeygramTells Go.Proofs.YtpephndecdkfhaaW.PrintWords Go.Proofs.YtpephndecdkfhaaW.PrintLast Go.Proofs.Ytpephndecdkfhaa
set_option linter.unusedVariables false
set_option linter.unusedSimpArgs false
/-- The last key's number. -/
def glast (r c f : Int) (keys : List (List Int)) : Int := if gcheck r c f keys = 0 then (f - 1 + keys.length) else 0
theorem Last_ok (keys : List (List Int)) (hl : keys.length < 1000000) (a s r c f : Int) (hf : 0 ≤ f ∧ f < 18446744073709551616) (k : Nat) (hk : keys.length + 2 < k) : keygram_Last.f k a s r c f keys = some (glast r c f keys) := by
  unfold keygram_Last.f glast
  rw [gC_ok keys hl a s r c f hf k hk, Option.bind_some]
  by_cases h : gcheck r c f keys = 0
  · obtain ⟨-, -, hf0, -, -, hr⟩ := gcheck_ok h
    rw [if_pos h, if_pos h, gCu (x := (keys.length : Int)) (by omega) (by omega), gCu (x := f - 1) (by omega) (by omega), gCu (by omega) (by rcases Nat.eq_zero_or_pos keys.length with hp | hp <;> first | omega | (have := hr hp; omega))]
  · rw [if_neg h, if_neg h]
theorem known14 (k : Nat) (hk : 5 < k) : prolepsislaw14_known.f k = some true := by
  unfold prolepsislaw14_known.f
  rw [Option.bind_some]
  have hb : keygram_Bytes.f 2 300 1 2 5 [[97]] = some (gbytes 2 300 1 2 5 [[97]], 0) := by
    unfold keygram_Bytes.f
    rw [if_pos (by decide), show gcheck 1 2 5 [[97]] = 0 from by decide, if_pos rfl]
  have hg : gbytes 2 300 1 2 5 [[97]] = [75, 2, 172, 2, 1, 2, 5, 1, 1, 97] := by
    simp [gbytes, gkey, encAll, encN]
  have hs : prolepsisref01_Same.f [75, 2, 172, 2, 1, 2, 5, 1, 1, 97] [75, 2, 172, 2, 1, 2, 5, 1, 1, 97] = some true := by unfold prolepsisref01_Same.f; simp
  rw [hb, Option.bind_some, hg]
  simp only [if_true]
  rw [hs, Option.bind_some]
  simp only [if_true]
  rw [Last_ok [[97]] (by decide) 2 300 1 2 5 (by decide) k (by simp; omega), Option.bind_some]
  rfl
theorem rSize (r c : Int) : prolepsisref07_Size.f r c = some (decide ((1 ≤ r ∧ r ≤ 512) ∧ (1 ≤ c ∧ c ≤ 512))) := by
  unfold prolepsisref07_Size.f
  by_cases h1 : r ≥ 1
  · rw [if_pos h1]
    by_cases h2 : r ≤ 512
    · rw [if_pos h2]
      by_cases h3 : c ≥ 1
      · rw [if_pos h3]; simp [h1, h2, h3]
      · rw [if_neg h3, decide_eq_false (by omega)]
    · rw [if_neg h2, decide_eq_false (by omega)]
  · rw [if_neg h1, decide_eq_false (by omega)]
theorem rC_loop1 (sk : List ByteArray) (hl : sk.length < 1000000) (a s r c f : Int) (hf : 0 < f ∧ f < 18446744073709551616) : ∀ (d i k : Nat), i + d = sk.length → 1 ≤ i → d < k → f + ((i : Int) - 1) < 18446744073709551616 →
    prolepsisref14_Check.l1 k (f + ((i : Int) - 1)) (i : Int) a s r c f sk = some (if f > 18446744073709551615 - ((sk.length : Int) - 1) then 5 else 0)
  | 0, i, k + 1, hi, h1, hk, hb => by
    rw [prolepsisref14_Check.l1, if_neg (by omega), if_neg (by omega)]
  | d + 1, i, k + 1, hi, h1, hk, hb => by
    rw [prolepsisref14_Check.l1, if_pos (by omega)]
    by_cases hz : f + ((i : Int) - 1) = 18446744073709551615
    · rw [hz, if_pos (by decide), if_pos (by omega)]
    · rw [gCu (x := f + ((i : Int) - 1) + 1) (by omega) (by omega), if_neg (by omega), gC64 (by omega) (by omega), show f + ((i : Int) - 1) + 1 = f + (((i + 1 : Nat) : Int) - 1) by omega, show ((i : Int) + 1) = ((i + 1 : Nat) : Int) by omega]
      exact rC_loop1 sk hl a s r c f hf d (i + 1) k (by omega) (by omega) (by omega) (by omega)
theorem rC_loop0 (keys : List (List Int)) (hl : keys.length < 1000000) (a s r c f : Int) (hf : 0 < f ∧ f < 18446744073709551616) : ∀ (d i k : Nat), i + d = keys.length → d + keys.length + 2 < k →
    prolepsisref14_Check.l0 k (i : Int) a s r c f (keys.map strOfNums) = some (if kerr (keys.drop i) ≠ 0 then kerr (keys.drop i) else if 0 < keys.length ∧ f > 18446744073709551615 - ((keys.length : Int) - 1) then 5 else 0)
  | 0, i, k + 1, hi, hk => by
    have hm : (keys.map strOfNums).length = keys.length := List.length_map ..
    rw [prolepsisref14_Check.l0, if_neg (by rw [hm]; omega), List.drop_eq_nil_of_le (by omega)]
    simp only [kerr, ne_eq, not_true_eq_false, if_false]
    by_cases hp : 0 < keys.length
    · have := rC_loop1 (keys.map strOfNums) (by omega) a s r c f hf (keys.length - 1) 1 k (by omega) (by omega) (by omega) (by simp; omega)
      rw [show f + (((1 : Nat) : Int) - 1) = f by omega, hm] at this
      have this : prolepsisref14_Check.l1 k f 1 a s r c f (keys.map strOfNums) = _ := this
      rw [this]
      by_cases hq : f > 18446744073709551615 - ((keys.length : Int) - 1)
      · rw [if_pos hq, if_pos ⟨hp, hq⟩]
      · rw [if_neg hq, if_neg (fun h => hq h.2)]
    · obtain ⟨k, rfl⟩ : ∃ j, k = j + 1 := ⟨k - 1, by omega⟩
      rw [prolepsisref14_Check.l1, if_neg (by rw [hm]; omega), if_neg (fun h => hp h.1)]
  | d + 1, i, k + 1, hi, hk => by
    have hm : (keys.map strOfNums).length = keys.length := List.length_map ..
    have hlt : i < keys.length := by omega
    rw [prolepsisref14_Check.l0, if_pos (by rw [hm]; omega), if_pos (by omega)]
    have e : rdOf ByteArray.empty (keys.map strOfNums) (i : Int) = strOfNums keys[i] := by unfold rdOf; rw [Int.toNat_natCast, List.getD_eq_getElem?_getD, List.getElem?_map, List.getElem?_eq_getElem hlt]; rfl
    rw [e, List.drop_eq_getElem_cons hlt]
    have hsz : (strOfNums keys[i]).size = keys[i].length := by simp [strOfNums, ByteArray.size]
    have htl : (strOfNums keys[i]).toList = ([] : List UInt8) ↔ keys[i].length = 0 := by
      have hd : (strOfNums keys[i]).toList.length = keys[i].length := by rw [← hsz, ByteArray.toList_eq, Array.length_toList]; rfl
      rw [← hd]; exact ⟨fun h => by rw [h]; rfl, fun h => List.eq_nil_of_length_eq_zero h⟩
    by_cases h0 : (keys[i]).length = 0
    · rw [if_pos (htl.2 h0)]; simp [kerr, h0]
    · rw [if_neg (fun h => h0 (htl.1 h)), hsz]
      by_cases h8 : (keys[i]).length > 8
      · rw [if_pos (by omega)]; simp [kerr, h0, h8]
      · rw [if_neg (by omega), gC64 (by omega) (by omega), show ((i : Int) + 1) = ((i + 1 : Nat) : Int) by omega, rC_loop0 keys hl a s r c f hf d (i + 1) k (by omega) (by omega)]
        simp only [kerr, if_neg h0, if_neg h8]
theorem rC_ok (keys : List (List Int)) (hl : keys.length < 1000000) (a s r c f : Int) (hf : 0 ≤ f ∧ f < 18446744073709551616) (k : Nat) (hk : 2 * keys.length + 2 < k) : prolepsisref14_Check.f k a s r c f (keys.map strOfNums) = some (gcheck r c f keys) := by
  have hm : (keys.map strOfNums).length = keys.length := List.length_map ..
  unfold prolepsisref14_Check.f gcheck
  rw [rSize, Option.bind_some, hm]
  by_cases h1 : (1 ≤ r ∧ r ≤ 512) ∧ (1 ≤ c ∧ c ≤ 512)
  · rw [if_pos (decide_eq_true h1), if_neg (c := ¬(1 ≤ r ∧ r ≤ 512) ∨ ¬(1 ≤ c ∧ c ≤ 512)) (by omega)]
    by_cases h3 : f = 0
    · rw [if_pos h3, if_pos h3]
    · rw [if_neg h3, if_neg h3]
      by_cases h4 : keys.length > 64
      · rw [if_pos (c := (keys.length : Int) > 64) (by omega), if_pos h4]
      · rw [if_neg (c := (keys.length : Int) > 64) (by omega), if_neg h4]
        have := rC_loop0 keys hl a s r c f ⟨by omega, hf.2⟩ keys.length 0 k (by omega) (by omega)
        rw [List.drop_zero] at this
        exact this
  · rw [if_neg (by rw [decide_eq_false h1]; simp), if_pos (c := ¬(1 ≤ r ∧ r ≤ 512) ∨ ¬(1 ≤ c ∧ c ≤ 512)) (by omega)]
theorem Of_loop (keys : List (List Int)) (hl : keys.length < 1000000) (a s r c f : Int) : ∀ (d i k : Nat), i + d = keys.length → d < k →
    prolepsislaw14_Of.l0 k (i : Int) a s r c f keys a s r c f ((keys.take i).map strOfNums) = some (a, s, r, c, f, keys.map strOfNums)
  | 0, i, k + 1, hi, hk => by
    rw [prolepsislaw14_Of.l0, if_neg (by omega), List.take_of_length_le (by omega)]
  | d + 1, i, k + 1, hi, hk => by
    have hlt : i < keys.length := by omega
    have e : rd_L1 keys (i : Int) = keys[i] := by unfold rd_L1; rw [Int.toNat_natCast, List.getD_eq_getElem?_getD, List.getElem?_eq_getElem hlt]; rfl
    have e2 : (keys.take i).map strOfNums ++ [strOfNums keys[i]] = (keys.take (i + 1)).map strOfNums := by
      rw [List.take_add_one, List.getElem?_eq_getElem hlt, List.map_append]; rfl
    rw [prolepsislaw14_Of.l0, if_pos (by omega), if_pos (by omega), if_pos (by rw [List.length_map, List.length_take]; omega), e, e2, gC64 (by omega) (by omega), show ((i : Int) + 1) = ((i + 1 : Nat) : Int) by omega]
    exact Of_loop keys hl a s r c f d (i + 1) k (by omega) (by omega)
theorem Of_ok (keys : List (List Int)) (hl : keys.length < 1000000) (a s r c f : Int) (k : Nat) (hk : keys.length < k) : prolepsislaw14_Of.f k a s r c f keys = some (a, s, r, c, f, keys.map strOfNums) :=
  Of_loop keys hl a s r c f keys.length 0 k (by omega) hk
theorem rLast_ok (keys : List (List Int)) (hl : keys.length < 1000000) (a s r c f : Int) (hf : 0 ≤ f ∧ f < 18446744073709551616) (k : Nat) (hk : 2 * keys.length + 2 < k) : prolepsisref14_Last.f k a s r c f (keys.map strOfNums) = some (glast r c f keys) := by
  unfold prolepsisref14_Last.f glast
  rw [rC_ok keys hl a s r c f hf k hk, Option.bind_some, List.length_map]
  by_cases h : gcheck r c f keys = 0
  · rw [if_pos h, if_pos h]
    obtain ⟨-, -, hf0, hn, -, hr⟩ := gcheck_ok h
    rw [IntKind.wrap_u64, IntKind.wrap_u64, IntKind.wrap_u64]
    by_cases hp : 0 < keys.length
    · have := hr hp; congr 1; omega
    · congr 1; omega
  · rw [if_neg h, if_neg h]
theorem mn_take (l : List Int) : l.take (mn (l.length : Int) 20).toNat = l.take 20 ∧ 0 ≤ mn (l.length : Int) 20 ∧ mn (l.length : Int) 20 ≤ (l.length : Int) := by
  unfold mn
  by_cases h : 20 < (l.length : Int)
  · rw [if_pos h]
    exact ⟨rfl, by omega, by omega⟩
  · rw [if_neg h, Int.toNat_natCast, List.take_length, List.take_of_length_le (by omega)]
    exact ⟨rfl, by omega, by omega⟩
/-- A gram's keys, cut. -/
def cutK (keys : List (List Int)) : List (List Int) := (keys.take 70).map (·.take 20)
theorem Cut_loop (keys : List (List Int)) (hl : keys.length ≤ 9223372036854775807) (a s r c f : Int) : ∀ (d i k : Nat), i + d = min keys.length 70 → d < k →
    prolepsislaw14_Cut.l0 k ((keys.take i).map (·.take 20)) (i : Int) a s r c f keys = some (a, s, r, c, f, cutK keys)
  | 0, i, k + 1, hi, hk => by
    have e : (keys.take i).map (·.take 20) = cutK keys := by
      unfold cutK
      rcases Nat.lt_or_ge keys.length 70 with h | h
      · rw [List.take_of_length_le (by omega : keys.length ≤ i), List.take_of_length_le (by omega : keys.length ≤ 70)]
      · rw [show i = 70 by omega]
    rw [prolepsislaw14_Cut.l0, e]
    by_cases h1 : (i : Int) < (keys.length : Int)
    · rw [if_pos h1, if_neg (by omega)]
    · rw [if_neg h1]
  | d + 1, i, k + 1, hi, hk => by
    have hlt : i < keys.length := by omega
    have e : rd_L1 keys (i : Int) = keys[i] := by unfold rd_L1; rw [Int.toNat_natCast, List.getD_eq_getElem?_getD, List.getElem?_eq_getElem hlt]; rfl
    obtain ⟨m1, m2, m3⟩ := mn_take keys[i]
    have e2 : (keys.take i).map (·.take 20) ++ [(keys[i]).take 20] = (keys.take (i + 1)).map (·.take 20) := by
      rw [List.take_add_one (i := i), List.getElem?_eq_getElem hlt, List.map_append]; rfl
    rw [prolepsislaw14_Cut.l0, if_pos (by omega), if_pos (by omega), if_pos (by omega), e, if_pos m2, if_pos m3, if_pos (by rw [List.length_map, List.length_take]; omega), m1, e2, gC64 (by omega) (by omega), show ((i : Int) + 1) = ((i + 1 : Nat) : Int) by omega]
    exact Cut_loop keys hl a s r c f d (i + 1) k (by omega) (by omega)
theorem Cut_ok (keys : List (List Int)) (hl : keys.length ≤ 9223372036854775807) (a s r c f : Int) (k : Nat) (hk : 70 < k) : prolepsislaw14_Cut.f k a s r c f keys = some (a, s, r, c, f, cutK keys) :=
  Cut_loop keys hl a s r c f (min keys.length 70) 0 k (by omega) (by omega)
theorem cutK_len (keys : List (List Int)) : (cutK keys).length ≤ 70 := by unfold cutK; rw [List.length_map, List.length_take]; omega
theorem cutK_in8 {keys : List (List Int)} (h : ∀ k ∈ keys, In8 k) : ∀ k ∈ cutK keys, In8 k := by
  intro k hk
  unfold cutK at hk
  obtain ⟨x, hx, rfl⟩ := List.mem_map.1 hk
  exact (h x (List.mem_of_mem_take hx)).take 20
theorem Bytes_ok (keys : List (List Int)) (hl : keys.length < 1000000) (a s r c f : Int) (ha : 0 ≤ a ∧ a < 18446744073709551616) (hs : 0 ≤ s ∧ s < 18446744073709551616) (hf : 0 ≤ f ∧ f < 18446744073709551616) :
    keygram_Bytes.f a s r c f keys = some (if gcheck r c f keys = 0 then gbytes a s r c f keys else [], gcheck r c f keys) := by unfold keygram_Bytes.f; rw [if_pos ⟨hl, ha, hs, hf⟩]
theorem Parse_ok (l : List Int) (hl : l.length ≤ 1000000) (h8 : In8 l) : keygram_Parse.f l = some (gparse l) := by unfold keygram_Parse.f; rw [if_pos ⟨hl, h8⟩]
theorem gbytes_in8 {a s r c f : Int} {keys : List (List Int)} (ha : 0 ≤ a) (hs : 0 ≤ s) (hr : 0 ≤ r) (hc : 0 ≤ c) (hf : 0 ≤ f) (hk : ∀ k ∈ keys, In8 k) : In8 (gbytes a s r c f keys) := by
  rw [gbytes_body]
  unfold gbody
  refine In8.cons (by decide) (by decide) ((encN_in8 a ha).append ((encN_in8 s hs).append ((encN_in8 r hr).append ((encN_in8 c hc).append ((encN_in8 f hf).append ((encN_in8 _ (by omega)).append ?_))))))
  intro x hx
  obtain ⟨k, hk1, hx⟩ := List.mem_flatMap.1 hx
  exact ((encN_in8 (k.length : Int) (by omega)).append (hk k hk1)) x hx
theorem gbytes_len {a s r c f : Int} {keys : List (List Int)} (h : RightG a s r c f keys) : (gbytes a s r c f keys).length ≤ 2000 := by
  have h6 : In64 [a, s, r, c, f, (keys.length : Int)] := by
    intro x hx
    have h1 := h.a; have h2 := h.s; have h3 := h.r; have h4 := h.c; have h5 := h.f; have h7 := h.n
    simp at hx
    rcases hx with rfl | rfl | rfl | rfl | rfl | rfl <;> omega
  have h1 := encAll_len h6
  have h2 := gkeys_len h.k
  have h3 := h.n
  unfold gbytes
  rw [List.length_append, List.length_append]
  have h4 : ([75] : List Int).length = 1 := rfl
  have h5 : ([a, s, r, c, f, (keys.length : Int)] : List Int).length = 6 := rfl
  rw [h5] at h1
  omega
theorem rightG {a s r c f : Int} {keys : List (List Int)} (ha : 0 ≤ a ∧ a < 18446744073709551616) (hs : 0 ≤ s ∧ s < 18446744073709551616) (hf : 0 ≤ f ∧ f < 18446744073709551616) (h : gcheck r c f keys = 0) : RightG a s r c f keys := by
  obtain ⟨h1, h2, h3, h4, h5, -⟩ := gcheck_ok h
  exact ⟨ha, hs, h1, h2, hf, h4, h5⟩
/-- Cut short: none. -/
theorem kq_eq (x y : List Int) : kq x y = ((strOfNums x).toList == (strOfNums y).toList) := rfl
theorem rdM (keys : List (List Int)) (i : Nat) (h : i < keys.length) : rdOf ByteArray.empty (keys.map strOfNums) (i : Int) = strOfNums keys[i] := by unfold rdOf; rw [Int.toNat_natCast, List.getD_eq_getElem?_getD, List.getElem?_map, List.getElem?_eq_getElem h]; rfl
theorem rdK (keys : List (List Int)) (i : Nat) (h : i < keys.length) : rd_L1 keys (i : Int) = keys[i] := by unfold rd_L1; rw [Int.toNat_natCast, List.getD_eq_getElem?_getD, List.getElem?_eq_getElem h]; rfl
theorem rSame_loop (a0 a1 a2 a3 a4 b0 b1 b2 b3 b4 : Int) (xs ys : List (List Int)) (hl : xs.length = ys.length) (hx : xs.length < 1000000) : ∀ (d i k : Nat), i + d = xs.length → d < k →
    prolepsisref14_Same.l0 k (i : Int) a0 a1 a2 a3 a4 (xs.map strOfNums) b0 b1 b2 b3 b4 (ys.map strOfNums) = some (kEq (xs.drop i) (ys.drop i))
  | 0, i, k + 1, hi, hk => by
    obtain rfl : i = xs.length := by omega
    rw [prolepsisref14_Same.l0, if_neg (by simp), kEq_end hl]
  | d + 1, i, k + 1, hi, hk => by
    have h1 : i < xs.length := by omega
    have h2 : i < ys.length := by omega
    rw [prolepsisref14_Same.l0, if_pos (by rw [List.length_map]; omega), if_pos (by omega), if_pos (by rw [List.length_map]; omega), rdM xs i h1, rdM ys i h2, kEq_at h1 h2]
    by_cases h : (strOfNums xs[i]).toList = (strOfNums ys[i]).toList
    · rw [if_pos h, gC64 (by omega) (by omega), show ((i : Int) + 1) = ((i + 1 : Nat) : Int) by omega, rSame_loop a0 a1 a2 a3 a4 b0 b1 b2 b3 b4 xs ys hl hx d (i + 1) k (by omega) (by omega)]
      rw [show kq xs[i] ys[i] = true by rw [kq_eq]; simpa using h]; rfl
    · rw [if_neg h, show kq xs[i] ys[i] = false by rw [kq_eq]; simpa using h]; rfl
theorem rSame_ok (a0 a1 a2 a3 a4 b0 b1 b2 b3 b4 : Int) (xs ys : List (List Int)) (hx : xs.length < 1000000) (k : Nat) (hk : xs.length + 2 < k) : prolepsisref14_Same.f k a0 a1 a2 a3 a4 (xs.map strOfNums) b0 b1 b2 b3 b4 (ys.map strOfNums) = some (sameG a0 a1 a2 a3 a4 xs b0 b1 b2 b3 b4 ys) := by
  obtain ⟨k, rfl⟩ : ∃ q, k = q + 1 := ⟨k - 1, by omega⟩
  unfold prolepsisref14_Same.f sameG
  have hj : ∀ b : Bool, b = true → prolepsisref14_Same.j0 (k + 1) b a0 a1 a2 a3 a4 (xs.map strOfNums) b0 b1 b2 b3 b4 (ys.map strOfNums) = some false := by
    intro b hb
    rw [prolepsisref14_Same.j0, if_pos hb]
  by_cases h0 : a0 = b0
  · rw [if_pos h0]
    by_cases h1 : a1 = b1
    · rw [if_pos h1]
      by_cases h2 : a2 = b2
      · rw [if_pos h2]
        by_cases h3 : a3 = b3
        · rw [if_pos h3]
          by_cases h4 : a4 = b4
          · rw [if_pos h4]
            subst h0 h1 h2 h3 h4
            by_cases hl : xs.length = ys.length
            · rw [show (((xs.map strOfNums).length : Int) != ((ys.map strOfNums).length : Int)) = false by simp [hl], prolepsisref14_Same.j0, if_neg (by decide)]
              have := rSame_loop a0 a1 a2 a3 a4 a0 a1 a2 a3 a4 xs ys hl hx xs.length 0 k (by omega) (by omega)
              simp at this ⊢
              exact this
            · rw [hj _ (by simp; omega), kEq_len hl]; simp
          · rw [if_neg h4, hj _ rfl]; simp [h4]
        · rw [if_neg h3, hj _ rfl]; simp [h3]
      · rw [if_neg h2, hj _ rfl]; simp [h2]
    · rw [if_neg h1, hj _ rfl]; simp [h1]
  · rw [if_neg h0, hj _ rfl]; simp [h0]
theorem kEq_refl : ∀ xs : List (List Int), kEq xs xs = true
  | [] => rfl
  | x :: t => by unfold kEq; rw [kEq_refl t]; simp [kq]
theorem sameG_refl (a0 a1 a2 a3 a4 : Int) (xs : List (List Int)) : sameG a0 a1 a2 a3 a4 xs a0 a1 a2 a3 a4 xs = true := by unfold sameG; simp [kEq_refl]
/-- The key of a number. -/
def gkeyOf (r c f : Int) (keys : List (List Int)) (n : Int) : List Int × Bool := if gcheck r c f keys = 0 ∧ f ≤ n ∧ n - f < keys.length then (keys.getD (n - f).toNat [], true) else ([], false)
theorem Key_ok (keys : List (List Int)) (hl : keys.length < 1000000) (hk8 : ∀ k ∈ keys, k.length ≤ 20) (a s r c f n : Int) (hf : 0 ≤ f ∧ f < 18446744073709551616) (hn : 0 ≤ n ∧ n < 18446744073709551616) (k : Nat) (hk : keys.length + 2 < k) :
    keygram_Key.f k a s r c f keys n = some (gkeyOf r c f keys n) := by
  unfold keygram_Key.f gkeyOf
  rw [gC_ok keys hl a s r c f hf k hk, Option.bind_some]
  by_cases hg : gcheck r c f keys = 0
  · rw [if_pos hg]
    by_cases h1 : n < f
    · rw [if_pos h1, if_neg (fun h => by omega)]
    · rw [if_neg h1, gCu (x := n - f) (by omega) (by omega), gCu (x := (keys.length : Int)) (by omega) (by omega)]
      by_cases h2 : n - f ≥ (keys.length : Int)
      · rw [if_pos h2, if_neg (fun h => by omega)]
      · obtain ⟨i, hi⟩ : ∃ i : Nat, n - f = (i : Int) := ⟨(n - f).toNat, by omega⟩
        have hlt : i < keys.length := by omega
        rw [if_neg h2, if_pos (by omega), if_pos (by omega), if_pos ⟨hg, by omega, by omega⟩, hi, rdK keys i hlt]
        unfold bytes_Clone.f
        have := hk8 keys[i] (List.getElem_mem hlt)
        rw [if_pos (by omega)]
        simp [List.getD_eq_getElem?_getD, List.getElem?_eq_getElem hlt]
  · rw [if_neg hg, if_neg (fun h => hg h.1)]
theorem rKey_loop (keys : List (List Int)) (hl : keys.length < 1000000) (a s r c f n : Int) (hf : 0 ≤ f ∧ f < 18446744073709551616) (hn : 0 ≤ n ∧ n < 18446744073709551616) (hg : gcheck r c f keys = 0) : ∀ (d i k : Nat), i + d = keys.length → 2 * d + 2 * keys.length + 4 < k → (∀ j : Nat, j < i → f + (j : Int) ≠ n) →
    prolepsisref14_Key.l0 k n (i : Int) a s r c f (keys.map strOfNums) = some (strOfNums (gkeyOf r c f keys n).1, (gkeyOf r c f keys n).2)
  | 0, i, k + 2, hi, hk, hj => by
    rw [prolepsisref14_Key.l0, if_neg (by rw [List.length_map]; omega), prolepsisref14_Key.j1, if_neg (by decide)]
    have : gkeyOf r c f keys n = ([], false) := by
      unfold gkeyOf
      rw [if_neg]
      rintro ⟨_, h1, h2⟩
      exact hj (n - f).toNat (by omega) (by omega)
    rw [this]; rfl
  | d + 1, i, k + 2, hi, hk, hj => by
    have hlt : i < keys.length := by omega
    obtain ⟨_, _, _, _, _, hfm⟩ := gcheck_ok hg
    have hfb : f + (i : Int) < 18446744073709551616 := by
      by_cases hp : 0 < keys.length
      · have := hfm hp; omega
      · omega
    rw [prolepsisref14_Key.l0, if_pos (by rw [List.length_map]; omega), rC_ok keys hl a s r c f hf (k + 1) (by omega), Option.bind_some, hg, prolepsisref14_Key.j1, if_pos (by decide), gCu (x := (i : Int)) (by omega) (by omega), gCu (x := f + (i : Int)) (by omega) hfb]
    by_cases he : f + (i : Int) = n
    · rw [if_pos he, if_pos (by omega), if_pos (by rw [List.length_map]; omega), rdM keys i hlt]
      have : gkeyOf r c f keys n = (keys[i], true) := by
        unfold gkeyOf
        rw [if_pos ⟨hg, by omega, by omega⟩, show (n - f).toNat = i by omega]
        simp [List.getD_eq_getElem?_getD, List.getElem?_eq_getElem hlt]
      rw [this]
    · rw [if_neg he, gC64 (by omega) (by omega), show ((i : Int) + 1) = ((i + 1 : Nat) : Int) by omega]
      exact rKey_loop keys hl a s r c f n hf hn hg d (i + 1) k (by omega) (by omega) (fun j hj2 => by
        by_cases h : j = i
        · rw [h]; exact he
        · exact hj j (by omega))
theorem rKey_ok (keys : List (List Int)) (hl : keys.length < 1000000) (a s r c f n : Int) (hf : 0 ≤ f ∧ f < 18446744073709551616) (hn : 0 ≤ n ∧ n < 18446744073709551616) (k : Nat) (hk : 4 * keys.length + 10 < k) :
    prolepsisref14_Key.f k a s r c f (keys.map strOfNums) n = some (strOfNums (gkeyOf r c f keys n).1, (gkeyOf r c f keys n).2) := by
  unfold prolepsisref14_Key.f
  by_cases hg : gcheck r c f keys = 0
  · exact rKey_loop keys hl a s r c f n hf hn hg keys.length 0 k (by omega) (by omega) (fun j h => by omega)
  · have : gkeyOf r c f keys n = ([], false) := by unfold gkeyOf; rw [if_neg (fun h => hg h.1)]
    rw [this]
    obtain ⟨k, rfl⟩ : ∃ q, k = q + 2 := ⟨k - 2, by omega⟩
    rw [prolepsisref14_Key.l0]
    by_cases h0 : (0 : Int) < ((keys.map strOfNums).length : Int)
    · rw [if_pos h0, rC_ok keys hl a s r c f hf (k + 1) (by omega), Option.bind_some, prolepsisref14_Key.j1, if_neg (by simpa using hg)]; rfl
    · rw [if_neg h0, prolepsisref14_Key.j1, if_neg (by decide)]; rfl
theorem bytes_str {l : List Int} (h : In8 l) : bytesOf (strOfNums l) = l := by
  unfold bytesOf strOfNums
  simp only [List.map_map]
  conv => rhs; rw [← List.map_id l]
  apply List.map_congr_left
  intro x hx
  have := h x hx
  simp [Function.comp]
  omega
theorem str_sz (l : List Int) : (strOfNums l).size = l.length := by simp [strOfNums, ByteArray.size]
theorem rBytes1 {x : Int} (h : 0 ≤ x ∧ x < 18446744073709551616) : prolepsisref01_Bytes.f x = some (encN x) := by unfold prolepsisref01_Bytes.f; rw [if_pos h]
theorem rAll_l (l : List Int) (h64 : In64 l) (hl : l.length < 1000000) : ∀ (d i k : Nat) (o : List Int), i + d = l.length → o.length ≤ 10 * i → d < k → prolepsisref01_All.l0 k l o (i : Int) = some (o ++ encAll (l.drop i))
  | 0, i, k + 1, o, hi, ho, hk => by
    rw [prolepsisref01_All.l0, if_neg (by omega), List.drop_eq_nil_of_le (by omega)]
    simp [encAll]
  | d + 1, i, k + 1, o, hi, ho, hk => by
    have hlt : i < l.length := by omega
    have hx := h64 l[i] (List.getElem_mem hlt)
    have hle := encN_len10 l[i] hx.2
    rw [prolepsisref01_All.l0, if_pos (by omega), if_pos (by omega), show rd l (i : Int) = l[i] by unfold rd; rw [Int.toNat_natCast, List.getD_eq_getElem?_getD, List.getElem?_eq_getElem hlt]; rfl, rBytes1 hx, Option.bind_some, if_pos (by omega), gC64 (by omega) (by omega), show ((i : Int) + 1) = ((i + 1 : Nat) : Int) by omega,
      rAll_l l h64 hl d (i + 1) k (o ++ encN l[i]) (by omega) (by rw [List.length_append]; omega) (by omega), List.drop_eq_getElem_cons hlt, encAll_cons, List.append_assoc]
theorem rAll_ok (l : List Int) (h64 : In64 l) (hl : l.length < 1000000) (k : Nat) (hk : l.length < k) : prolepsisref01_All.f k l = some (encAll l) :=
  rAll_l l h64 hl l.length 0 k [] (by omega) (by simp) hk
theorem rGB_loop (keys : List (List Int)) (hk8 : ∀ k ∈ keys, In8 k ∧ k.length ≤ 20) (a s r c f : Int) (hl : keys.length < 1000) : ∀ (d i k : Nat) (o : List Int), i + d = keys.length → o.length ≤ 1000 + 40 * i → d < k →
    prolepsisref14_Bytes.l0 k o (i : Int) a s r c f (keys.map strOfNums) = some (o ++ (keys.drop i).flatMap gkey)
  | 0, i, k + 1, o, hi, ho, hk => by
    rw [prolepsisref14_Bytes.l0, if_neg (by rw [List.length_map]; omega), List.drop_eq_nil_of_le (by omega)]
    simp
  | d + 1, i, k + 1, o, hi, ho, hk => by
    have hlt : i < keys.length := by omega
    obtain ⟨h8, hle⟩ := hk8 keys[i] (List.getElem_mem hlt)
    have hel := encN_len10 (keys[i].length : Int) (by omega)
    rw [prolepsisref14_Bytes.l0, if_pos (by rw [List.length_map]; omega), if_pos (by omega), rdM keys i hlt, str_sz, gCu (x := (keys[i].length : Int)) (by omega) (by omega), rBytes1 ⟨by omega, by omega⟩, Option.bind_some, if_pos (by omega), Option.bind_some, if_pos (by omega), bytes_str h8, Option.bind_some, if_pos (by rw [List.length_append]; omega), gC64 (by omega) (by omega), show ((i : Int) + 1) = ((i + 1 : Nat) : Int) by omega,
      rGB_loop keys hk8 a s r c f hl d (i + 1) k (o ++ encN (keys[i].length : Int) ++ keys[i]) (by omega) (by simp only [List.length_append]; omega) (by omega), List.drop_eq_getElem_cons hlt, List.flatMap_cons]
    unfold gkey
    simp
theorem rGB_ok (keys : List (List Int)) (hk8 : ∀ k ∈ keys, In8 k ∧ k.length ≤ 20) {a s r c f : Int} (ha : 0 ≤ a ∧ a < 18446744073709551616) (hs : 0 ≤ s ∧ s < 18446744073709551616) (hr : 0 ≤ r ∧ r < 1000) (hc : 0 ≤ c ∧ c < 1000) (hf : 0 ≤ f ∧ f < 18446744073709551616) (hl : keys.length < 1000) (k : Nat) (hk : keys.length + 10 < k) :
    prolepsisref14_Bytes.f k a s r c f (keys.map strOfNums) = some (gbytes a s r c f keys) := by
  unfold prolepsisref14_Bytes.f
  have h64 : In64 [a, s, r, c, f, (keys.length : Int)] := by
    intro x hx
    simp at hx
    rcases hx with rfl | rfl | rfl | rfl | rfl | rfl <;> omega
  have hlen := encAll_len h64
  have hpos : 0 < (encAll [a, s, r, c, f, (keys.length : Int)]).length := by rw [encAll_cons, List.length_append]; have := encN_pos a; omega
  rw [Option.bind_some, gCu (x := r) hr.1 (by omega), gCu (x := c) hc.1 (by omega), List.length_map, gCu (x := (keys.length : Int)) (by omega) (by omega), rAll_ok _ h64 (by simp) k (by simp; omega), Option.bind_some, if_pos (by omega), if_pos (by simp at hlen ⊢; omega)]
  refine (rGB_loop keys hk8 a s r c f hl keys.length 0 k ([75] ++ encAll [a, s, r, c, f, (keys.length : Int)]) (by omega) (by simp at hlen ⊢; omega) (by omega)).trans ?_
  unfold gbytes
  simp
theorem gparse_whole {a s r c f : Int} {keys : List (List Int)} (h : RightG a s r c f keys) (hg : gcheck r c f keys = 0) : gparse (gbytes a s r c f keys) = (a, s, r, c, f, keys, 0) := by
  rw [gbytes_body]
  obtain ⟨t, hK, hA, hB, hR, hC, hF⟩ := parse_whole h []
  rw [List.append_nil] at hK hA hB hR hC hF
  have hd : (kK (gbody a s r c f keys)).2.done = 0 := by rw [hK]; rfl
  have hk : kE (gbody a s r c f keys) = 0 := by rw [kE_ck hd, hR, hC, hF, hK]; exact hg
  rw [gparse_ok (by simp) (by rw [List.drop_one, List.tail_cons, hk]), List.drop_one, List.tail_cons, hA, hB, hR, hC, hF, hK]
theorem same_refl (b : List Int) : prolepsisref01_Same.f b b = some true := by unfold prolepsisref01_Same.f; simp
theorem KeygramTells_true (a s r c f : Int) (keys : List (List Int)) (a' s' r' c' f' : Int) (keys' : List (List Int)) (n : Int) (ha : 0 ≤ a ∧ a < 18446744073709551616) (hs : 0 ≤ s ∧ s < 18446744073709551616) (hf : 0 ≤ f ∧ f < 18446744073709551616)
    (hk : ∀ k ∈ keys, In8 k) (hl : keys.length ≤ 9223372036854775807) (hl' : keys'.length ≤ 9223372036854775807) (hn : 0 ≤ n ∧ n < 18446744073709551616) : prolepsislaw14_KeygramTells.f 2000 a s r c f keys a' s' r' c' f' keys' n = some true := by
  have hcl := cutK_len keys
  have hcl' := cutK_len keys'
  have hc8 := cutK_in8 hk
  have hc20 : ∀ k ∈ cutK keys, k.length ≤ 20 := by
    intro k hk
    unfold cutK at hk
    obtain ⟨x, _, rfl⟩ := List.mem_map.1 hk
    rw [List.length_take]; omega
  unfold prolepsislaw14_KeygramTells.f
  rw [Cut_ok keys hl a s r c f 2000 (by omega), Option.bind_some, Cut_ok keys' hl' a' s' r' c' f' 2000 (by omega), Option.bind_some]
  obtain ⟨ks, hks⟩ : ∃ x, cutK keys = x := ⟨_, rfl⟩
  obtain ⟨ks', hks'⟩ : ∃ x, cutK keys' = x := ⟨_, rfl⟩
  rw [hks] at hcl hc8 hc20 ⊢
  rw [hks'] at hcl' ⊢
  dsimp only
  rw [Of_ok ks (by omega) a s r c f 2000 (by omega), Option.bind_some]
  dsimp only
  rw [rC_ok ks (by omega) a s r c f hf 2000 (by omega), Option.bind_some, Bytes_ok ks (by omega) a s r c f ha hs hf, Option.bind_some]
  dsimp only
  rw [Key_ok ks (by omega) hc20 a s r c f n hf hn 2000 (by omega), Option.bind_some, rKey_ok ks (by omega) a s r c f n hf hn 2000 (by omega), Option.bind_some, gC_ok ks (by omega) a s r c f hf 2000 (by omega), Option.bind_some, if_pos rfl]
  dsimp only
  rw [if_pos rfl, Last_ok ks (by omega) a s r c f hf 2000 (by omega), Option.bind_some, rLast_ok ks (by omega) a s r c f hf 2000 (by omega), Option.bind_some, if_pos rfl, if_pos rfl, if_neg (by simp)]
  have hsm : ∀ (b0 b1 b2 b3 b4 : Int) (ys : List (List Int)), keygram_Same.f a s r c f ks b0 b1 b2 b3 b4 ys = some (sameG a s r c f ks b0 b1 b2 b3 b4 ys) := fun _ _ _ _ _ _ => rfl
  rw [hsm, Option.bind_some, Of_ok ks' (by omega) a' s' r' c' f' 2000 (by omega), Option.bind_some]
  dsimp only
  rw [rSame_ok a s r c f a' s' r' c' f' ks ks' (by omega) 2000 (by omega), Option.bind_some, if_neg (by simp), hsm, sameG_refl, Option.bind_some]
  rw [show (2000 : Nat) = 1999 + 1 from rfl, prolepsislaw14_KeygramTells.j0, if_neg (by decide)]
  have hkn : prolepsislaw14_known.f 1999 = some true := known14 1999 (by omega)
  by_cases hg : gcheck r c f ks = 0
  · have hR := rightG ha hs hf hg
    have h8 : In8 (gbytes a s r c f ks) := gbytes_in8 ha.1 hs.1 (by have := hR.r; omega) (by have := hR.c; omega) hf.1 hc8
    have hlen := gbytes_len hR
    rw [if_pos hg, if_pos hg, Parse_ok _ (by omega) h8, gparse_whole hR hg, Option.bind_some, hkn, Option.bind_some, if_pos rfl, rGB_ok ks (fun k hk => ⟨hc8 k hk, hc20 k hk⟩) ha hs (by have := hR.r; omega) (by have := hR.c; omega) hf (by omega) 1999 (by omega), Option.bind_some, same_refl, Option.bind_some, if_pos rfl]
    dsimp only
    rw [if_pos rfl, hsm, sameG_refl]
    rfl
  · rw [if_neg hg, if_neg hg, hkn]
    rfl
end Go.Proofs.Ytpephndecdkfhaa.Pure
