/- What the law KeygramCuts reaches answers true. -/
import Derived.Test.YtpephndecdkfhaaPKeygramCutsL
import Derived.Test.YtpephndecdkfhaaKgE
namespace Go.Proofs.Ytpephndecdkfhaa.Pure
open Go.RowKit Go.Proofs.Ytpephndecdkfhaa.PKeygramCuts Go.Proofs.YtpephndecdkfhaaW.PrintWords Go.Proofs.YtpephndecdkfhaaW.PrintLast Go.Proofs.Ytpephndecdkfhaa
set_option linter.unusedVariables false
set_option linter.unusedSimpArgs false
/-- The last key's number. -/
def glast (r c f : Int) (keys : List (List Int)) : Int := if gcheck r c f keys = 0 then (f - 1 + keys.length) else 0
theorem Last_ok (keys : List (List Int)) (hl : keys.length < 1000000) (a s r c f : Int) (hf : 0 ≤ f ∧ f < 18446744073709551616) (k : Nat) (hk : keys.length + 2 < k) : keygram_Last.f k a s r c f keys = some (glast r c f keys) := by
  unfold keygram_Last.f glast
  rw [gC_ok keys hl a s r c f hf k hk, Option.bind_some]
  by_cases h : gcheck r c f keys = 0
  · obtain ⟨-, -, hf0, -, -, hr⟩ := gcheck_ok h
    rw [if_pos h, if_pos h, gCu (x := (keys.length : Int)) (by omega) (by omega), gCu (x := f - 1) (by omega) (by omega), gCu (by omega) (by rcases Nat.eq_zero_or_pos keys.length with hp | hp <;> first | omega | (have := hr hp; omega))]
  · rw [if_neg h, if_neg h]
theorem known14 (k : Nat) (hk : 5 < k) : prolepsislaw14_known.f k = some true := by
  unfold prolepsislaw14_known.f
  rw [Option.bind_some]
  have hb : keygram_Bytes.f 2 300 1 2 5 [[97]] = some (gbytes 2 300 1 2 5 [[97]], 0) := by
    unfold keygram_Bytes.f
    rw [if_pos (by decide), show gcheck 1 2 5 [[97]] = 0 from by decide, if_pos rfl]
  have hg : gbytes 2 300 1 2 5 [[97]] = [75, 2, 172, 2, 1, 2, 5, 1, 1, 97] := by
    simp [gbytes, gkey, encAll, encN]
  have hs : prolepsisref01_Same.f [75, 2, 172, 2, 1, 2, 5, 1, 1, 97] [75, 2, 172, 2, 1, 2, 5, 1, 1, 97] = some true := by unfold prolepsisref01_Same.f; simp
  rw [hb, Option.bind_some, hg]
  simp only [if_true]
  rw [hs, Option.bind_some]
  simp only [if_true]
  rw [Last_ok [[97]] (by decide) 2 300 1 2 5 (by decide) k (by simp; omega), Option.bind_some]
  rfl
theorem mn_take (l : List Int) : l.take (mn (l.length : Int) 20).toNat = l.take 20 ∧ 0 ≤ mn (l.length : Int) 20 ∧ mn (l.length : Int) 20 ≤ (l.length : Int) := by
  unfold mn
  by_cases h : 20 < (l.length : Int)
  · rw [if_pos h]
    exact ⟨rfl, by omega, by omega⟩
  · rw [if_neg h, Int.toNat_natCast, List.take_length, List.take_of_length_le (by omega)]
    exact ⟨rfl, by omega, by omega⟩
/-- A gram's keys, cut. -/
def cutK (keys : List (List Int)) : List (List Int) := (keys.take 70).map (·.take 20)
theorem Cut_loop (keys : List (List Int)) (hl : keys.length ≤ 9223372036854775807) (a s r c f : Int) : ∀ (d i k : Nat), i + d = min keys.length 70 → d < k →
    prolepsislaw14_Cut.l0 k ((keys.take i).map (·.take 20)) (i : Int) a s r c f keys = some (a, s, r, c, f, cutK keys)
  | 0, i, k + 1, hi, hk => by
    have e : (keys.take i).map (·.take 20) = cutK keys := by
      unfold cutK
      rcases Nat.lt_or_ge keys.length 70 with h | h
      · rw [List.take_of_length_le (by omega : keys.length ≤ i), List.take_of_length_le (by omega : keys.length ≤ 70)]
      · rw [show i = 70 by omega]
    rw [prolepsislaw14_Cut.l0, e]
    by_cases h1 : (i : Int) < (keys.length : Int)
    · rw [if_pos h1, if_neg (by omega)]
    · rw [if_neg h1]
  | d + 1, i, k + 1, hi, hk => by
    have hlt : i < keys.length := by omega
    have e : rd_L1 keys (i : Int) = keys[i] := by unfold rd_L1; rw [Int.toNat_natCast, List.getD_eq_getElem?_getD, List.getElem?_eq_getElem hlt]; rfl
    obtain ⟨m1, m2, m3⟩ := mn_take keys[i]
    have e2 : (keys.take i).map (·.take 20) ++ [(keys[i]).take 20] = (keys.take (i + 1)).map (·.take 20) := by
      rw [List.take_add_one (i := i), List.getElem?_eq_getElem hlt, List.map_append]; rfl
    rw [prolepsislaw14_Cut.l0, if_pos (by omega), if_pos (by omega), if_pos (by omega), e, if_pos m2, if_pos m3, if_pos (by rw [List.length_map, List.length_take]; omega), m1, e2, gC64 (by omega) (by omega), show ((i : Int) + 1) = ((i + 1 : Nat) : Int) by omega]
    exact Cut_loop keys hl a s r c f d (i + 1) k (by omega) (by omega)
theorem Cut_ok (keys : List (List Int)) (hl : keys.length ≤ 9223372036854775807) (a s r c f : Int) (k : Nat) (hk : 70 < k) : prolepsislaw14_Cut.f k a s r c f keys = some (a, s, r, c, f, cutK keys) :=
  Cut_loop keys hl a s r c f (min keys.length 70) 0 k (by omega) (by omega)
theorem cutK_len (keys : List (List Int)) : (cutK keys).length ≤ 70 := by unfold cutK; rw [List.length_map, List.length_take]; omega
theorem cutK_in8 {keys : List (List Int)} (h : ∀ k ∈ keys, In8 k) : ∀ k ∈ cutK keys, In8 k := by
  intro k hk
  unfold cutK at hk
  obtain ⟨x, hx, rfl⟩ := List.mem_map.1 hk
  exact (h x (List.mem_of_mem_take hx)).take 20
theorem Bytes_ok (keys : List (List Int)) (hl : keys.length < 1000000) (a s r c f : Int) (ha : 0 ≤ a ∧ a < 18446744073709551616) (hs : 0 ≤ s ∧ s < 18446744073709551616) (hf : 0 ≤ f ∧ f < 18446744073709551616) :
    keygram_Bytes.f a s r c f keys = some (if gcheck r c f keys = 0 then gbytes a s r c f keys else [], gcheck r c f keys) := by unfold keygram_Bytes.f; rw [if_pos ⟨hl, ha, hs, hf⟩]
theorem Parse_ok (l : List Int) (hl : l.length ≤ 1000000) (h8 : In8 l) : keygram_Parse.f l = some (gparse l) := by unfold keygram_Parse.f; rw [if_pos ⟨hl, h8⟩]
theorem gbytes_in8 {a s r c f : Int} {keys : List (List Int)} (ha : 0 ≤ a) (hs : 0 ≤ s) (hr : 0 ≤ r) (hc : 0 ≤ c) (hf : 0 ≤ f) (hk : ∀ k ∈ keys, In8 k) : In8 (gbytes a s r c f keys) := by
  rw [gbytes_body]
  unfold gbody
  refine In8.cons (by decide) (by decide) ((encN_in8 a ha).append ((encN_in8 s hs).append ((encN_in8 r hr).append ((encN_in8 c hc).append ((encN_in8 f hf).append ((encN_in8 _ (by omega)).append ?_))))))
  intro x hx
  obtain ⟨k, hk1, hx⟩ := List.mem_flatMap.1 hx
  exact ((encN_in8 (k.length : Int) (by omega)).append (hk k hk1)) x hx
theorem gbytes_len {a s r c f : Int} {keys : List (List Int)} (h : RightG a s r c f keys) : (gbytes a s r c f keys).length ≤ 2000 := by
  have h6 : In64 [a, s, r, c, f, (keys.length : Int)] := by
    intro x hx
    have h1 := h.a; have h2 := h.s; have h3 := h.r; have h4 := h.c; have h5 := h.f; have h7 := h.n
    simp at hx
    rcases hx with rfl | rfl | rfl | rfl | rfl | rfl <;> omega
  have h1 := encAll_len h6
  have h2 := gkeys_len h.k
  have h3 := h.n
  unfold gbytes
  rw [List.length_append, List.length_append]
  have h4 : ([75] : List Int).length = 1 := rfl
  have h5 : ([a, s, r, c, f, (keys.length : Int)] : List Int).length = 6 := rfl
  rw [h5] at h1
  omega
theorem rightG {a s r c f : Int} {keys : List (List Int)} (ha : 0 ≤ a ∧ a < 18446744073709551616) (hs : 0 ≤ s ∧ s < 18446744073709551616) (hf : 0 ≤ f ∧ f < 18446744073709551616) (h : gcheck r c f keys = 0) : RightG a s r c f keys := by
  obtain ⟨h1, h2, h3, h4, h5, -⟩ := gcheck_ok h
  exact ⟨ha, hs, h1, h2, hf, h4, h5⟩
/-- Cut short: none. -/
theorem gparse_cut {a s r c f : Int} {keys : List (List Int)} (h : RightG a s r c f keys) (m : Nat) (hm : m < (gbytes a s r c f keys).length) : gparse ((gbytes a s r c f keys).take m) = (0, 0, 0, 0, 0, [], if m = 0 then 12 else 4) := by
  rw [gbytes_body] at hm ⊢
  cases m with
  | zero => rw [List.take_zero]; rfl
  | succ m =>
    rw [List.take_succ_cons]
    have hb := bad_done (parse_cut h m (by simpa using hm))
    have hk : kE ((gbody a s r c f keys).take m) = 4 := by rw [kE_no (by rw [hb]; decide), hb]
    rw [gparse_no (by simp) (by rw [List.drop_one, List.tail_cons, hk]; decide), List.drop_one, List.tail_cons, hk]
    rfl
/-- With more behind: none. -/
theorem gparse_more {a s r c f : Int} {keys : List (List Int)} (h : RightG a s r c f keys) (x : Int) : gparse (gbytes a s r c f keys ++ [x]) = (0, 0, 0, 0, 0, [], 3) := by
  rw [gbytes_body, List.cons_append]
  obtain ⟨t, hK, -⟩ := parse_whole h [x]
  have hd : (kK (gbody a s r c f keys ++ [x])).2.done = 3 := by rw [hK]; rfl
  have hk : kE (gbody a s r c f keys ++ [x]) = 3 := by rw [kE_no (by rw [hd]; decide), hd]
  rw [gparse_no (by simp) (by rw [List.drop_one, List.tail_cons, hk]; decide), List.drop_one, List.tail_cons, hk]
theorem KeygramCuts_true (a s r c f : Int) (keys : List (List Int)) (at_ more : Int) (ha : 0 ≤ a ∧ a < 18446744073709551616) (hs : 0 ≤ s ∧ s < 18446744073709551616) (hf : 0 ≤ f ∧ f < 18446744073709551616)
    (hk : ∀ k ∈ keys, In8 k) (hl : keys.length ≤ 9223372036854775807) (hm : 0 ≤ more ∧ more < 256) : prolepsislaw14_KeygramCuts.f 2000 a s r c f keys at_ more = some true := by
  have hcl := cutK_len keys
  have hc8 := cutK_in8 hk
  unfold prolepsislaw14_KeygramCuts.f
  rw [Cut_ok keys hl a s r c f 2000 (by omega), Option.bind_some]
  obtain ⟨ks, hks⟩ : ∃ x, cutK keys = x := ⟨_, rfl⟩
  rw [hks] at hcl hc8 ⊢
  dsimp only
  rw [Bytes_ok ks (by omega) a s r c f ha hs hf, Option.bind_some]
  dsimp only
  by_cases hg : gcheck r c f ks = 0
  · rw [if_pos hg, if_pos hg]
    have hR := rightG ha hs hf hg
    have hlen := gbytes_len hR
    have h8 : In8 (gbytes a s r c f ks) := gbytes_in8 ha.1 hs.1 (by have := hR.r; omega) (by have := hR.c; omega) hf.1 hc8
    have hpos : 0 < (gbytes a s r c f ks).length := by rw [gbytes_body]; simp
    have hcut := gparse_cut hR
    have hmore := gparse_more hR more
    obtain ⟨b, hb⟩ : ∃ x, gbytes a s r c f ks = x := ⟨_, rfl⟩
    rw [hb] at hlen h8 hpos hcut hmore ⊢
    have hu : IntKind.u64.wrap (b.length : Int) = (b.length : Int) := gCu (by omega) (by omega)
    rw [if_neg (by omega), hu, if_neg (by omega)]
    obtain ⟨m, hmm, hml⟩ : ∃ m : Nat, wrap64 (Int.tmod (IntKind.u64.wrap at_) (b.length : Int)) = (m : Int) ∧ m < b.length := by
      have h1 : 0 ≤ IntKind.u64.wrap at_ := by rw [IntKind.wrap_u64]; omega
      have h2 : Int.tmod (IntKind.u64.wrap at_) (b.length : Int) = (IntKind.u64.wrap at_) % (b.length : Int) := Int.tmod_eq_emod_of_nonneg h1
      have h3 := Int.emod_nonneg (IntKind.u64.wrap at_) (by omega : (b.length : Int) ≠ 0)
      have h4 := Int.emod_lt_of_pos (IntKind.u64.wrap at_) (by omega : 0 < (b.length : Int))
      refine ⟨((IntKind.u64.wrap at_) % (b.length : Int)).toNat, ?_, by omega⟩
      rw [h2, gC64 (by omega) (by omega)]; omega
    rw [hmm, if_pos (by omega), if_pos (by omega), Int.toNat_natCast, Parse_ok (b.take m) (by rw [List.length_take]; omega) (h8.take m), hcut m hml, Option.bind_some, Option.bind_some, if_pos (by simp; omega), Option.bind_some, List.nil_append, if_pos (by omega),
      Parse_ok (b ++ [more]) (by simp; omega) (h8.append (In8.cons hm.1 hm.2 In8.nil)), hmore, Option.bind_some]
    have hsame : keygram_Same.f 0 0 0 0 0 ([] : List (List Int)) 0 0 0 0 0 ([] : List (List Int)) = some true := by unfold keygram_Same.f; rfl
    by_cases h0 : m = 0
    · subst h0
      rw [if_pos (by rfl), known14 2000 (by omega), Option.bind_some, if_pos rfl]
      dsimp only
      rw [if_pos rfl, if_pos rfl, if_pos rfl, hsame, Option.bind_some, if_pos rfl]
      rfl
    · rw [if_neg (by omega), known14 2000 (by omega), Option.bind_some, if_pos rfl]
      dsimp only
      rw [if_neg h0, if_pos rfl, if_pos rfl, hsame, Option.bind_some, if_pos rfl]
      rfl
  · rw [if_neg hg, known14 2000 (by omega)]
    rfl
end Go.Proofs.Ytpephndecdkfhaa.Pure
