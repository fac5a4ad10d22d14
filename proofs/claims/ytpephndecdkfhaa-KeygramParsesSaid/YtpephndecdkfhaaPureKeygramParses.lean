/- What the law KeygramParses reaches answers true. -/
import Derived.Test.YtpephndecdkfhaaPKeygramParsesx
import Derived.Test.YtpephndecdkfhaaKgInv
import Derived.OpenShut
namespace Go.Proofs.Ytpephndecdkfhaa.Pure
open Go.RowKit Go.Proofs.Ytpephndecdkfhaa.PKeygramParses Go.Proofs.YtpephndecdkfhaaW.PrintWords Go.Proofs.YtpephndecdkfhaaW.PrintLast Go.Proofs.Ytpephndecdkfhaa
set_option linter.unusedVariables false
set_option linter.unusedSimpArgs false
/-- The last key's number. -/
def glast (r c f : Int) (keys : List (List Int)) : Int := if gcheck r c f keys = 0 then (f - 1 + keys.length) else 0
theorem Last_ok (keys : List (List Int)) (hl : keys.length < 1000000) (a s r c f : Int) (hf : 0 ≤ f ∧ f < 18446744073709551616) (k : Nat) (hk : keys.length + 2 < k) : keygram_Last.f k a s r c f keys = some (glast r c f keys) := by
  unfold keygram_Last.f glast
  rw [gC_ok keys hl a s r c f hf k hk, Option.bind_some]
  by_cases h : gcheck r c f keys = 0
  · obtain ⟨-, -, hf0, -, -, hr⟩ := gcheck_ok h
    rw [if_pos h, if_pos h, gCu (x := (keys.length : Int)) (by omega) (by omega), gCu (x := f - 1) (by omega) (by omega), gCu (by omega) (by rcases Nat.eq_zero_or_pos keys.length with hp | hp <;> first | omega | (have := hr hp; omega))]
  · rw [if_neg h, if_neg h]
theorem known14 (k : Nat) (hk : 5 < k) : prolepsislaw14_known.f k = some true := by
  unfold prolepsislaw14_known.f
  rw [Option.bind_some]
  have hb : keygram_Bytes.f 2 300 1 2 5 [[97]] = some (gbytes 2 300 1 2 5 [[97]], 0) := by
    unfold keygram_Bytes.f
    rw [if_pos (by decide), show gcheck 1 2 5 [[97]] = 0 from by decide, if_pos rfl]
  have hg : gbytes 2 300 1 2 5 [[97]] = [75, 2, 172, 2, 1, 2, 5, 1, 1, 97] := by
    simp [gbytes, gkey, encAll, encN]
  have hs : prolepsisref01_Same.f [75, 2, 172, 2, 1, 2, 5, 1, 1, 97] [75, 2, 172, 2, 1, 2, 5, 1, 1, 97] = some true := by unfold prolepsisref01_Same.f; simp
  rw [hb, Option.bind_some, hg]
  simp only [if_true]
  rw [hs, Option.bind_some]
  simp only [if_true]
  rw [Last_ok [[97]] (by decide) 2 300 1 2 5 (by decide) k (by simp; omega), Option.bind_some]
  rfl
theorem rSize (r c : Int) : prolepsisref07_Size.f r c = some (decide ((1 ≤ r ∧ r ≤ 512) ∧ (1 ≤ c ∧ c ≤ 512))) := by
  unfold prolepsisref07_Size.f
  by_cases h1 : r ≥ 1
  · rw [if_pos h1]
    by_cases h2 : r ≤ 512
    · rw [if_pos h2]
      by_cases h3 : c ≥ 1
      · rw [if_pos h3]; simp [h1, h2, h3]
      · rw [if_neg h3, decide_eq_false (by omega)]
    · rw [if_neg h2, decide_eq_false (by omega)]
  · rw [if_neg h1, decide_eq_false (by omega)]
theorem rC_loop1 (sk : List ByteArray) (hl : sk.length < 1000000) (a s r c f : Int) (hf : 0 < f ∧ f < 18446744073709551616) : ∀ (d i k : Nat), i + d = sk.length → 1 ≤ i → d < k → f + ((i : Int) - 1) < 18446744073709551616 →
    prolepsisref14_Check.l1 k (f + ((i : Int) - 1)) (i : Int) a s r c f sk = some (if f > 18446744073709551615 - ((sk.length : Int) - 1) then 5 else 0)
  | 0, i, k + 1, hi, h1, hk, hb => by
    rw [prolepsisref14_Check.l1, if_neg (by omega), if_neg (by omega)]
  | d + 1, i, k + 1, hi, h1, hk, hb => by
    rw [prolepsisref14_Check.l1, if_pos (by omega)]
    by_cases hz : f + ((i : Int) - 1) = 18446744073709551615
    · rw [hz, if_pos (by decide), if_pos (by omega)]
    · rw [gCu (x := f + ((i : Int) - 1) + 1) (by omega) (by omega), if_neg (by omega), gC64 (by omega) (by omega), show f + ((i : Int) - 1) + 1 = f + (((i + 1 : Nat) : Int) - 1) by omega, show ((i : Int) + 1) = ((i + 1 : Nat) : Int) by omega]
      exact rC_loop1 sk hl a s r c f hf d (i + 1) k (by omega) (by omega) (by omega) (by omega)
theorem rC_loop0 (keys : List (List Int)) (hl : keys.length < 1000000) (a s r c f : Int) (hf : 0 < f ∧ f < 18446744073709551616) : ∀ (d i k : Nat), i + d = keys.length → d + keys.length + 2 < k →
    prolepsisref14_Check.l0 k (i : Int) a s r c f (keys.map strOfNums) = some (if kerr (keys.drop i) ≠ 0 then kerr (keys.drop i) else if 0 < keys.length ∧ f > 18446744073709551615 - ((keys.length : Int) - 1) then 5 else 0)
  | 0, i, k + 1, hi, hk => by
    have hm : (keys.map strOfNums).length = keys.length := List.length_map ..
    rw [prolepsisref14_Check.l0, if_neg (by rw [hm]; omega), List.drop_eq_nil_of_le (by omega)]
    simp only [kerr, ne_eq, not_true_eq_false, if_false]
    by_cases hp : 0 < keys.length
    · have := rC_loop1 (keys.map strOfNums) (by omega) a s r c f hf (keys.length - 1) 1 k (by omega) (by omega) (by omega) (by simp; omega)
      rw [show f + (((1 : Nat) : Int) - 1) = f by omega, hm] at this
      have this : prolepsisref14_Check.l1 k f 1 a s r c f (keys.map strOfNums) = _ := this
      rw [this]
      by_cases hq : f > 18446744073709551615 - ((keys.length : Int) - 1)
      · rw [if_pos hq, if_pos ⟨hp, hq⟩]
      · rw [if_neg hq, if_neg (fun h => hq h.2)]
    · obtain ⟨k, rfl⟩ : ∃ j, k = j + 1 := ⟨k - 1, by omega⟩
      rw [prolepsisref14_Check.l1, if_neg (by rw [hm]; omega), if_neg (fun h => hp h.1)]
  | d + 1, i, k + 1, hi, hk => by
    have hm : (keys.map strOfNums).length = keys.length := List.length_map ..
    have hlt : i < keys.length := by omega
    rw [prolepsisref14_Check.l0, if_pos (by rw [hm]; omega), if_pos (by omega)]
    have e : rdOf ByteArray.empty (keys.map strOfNums) (i : Int) = strOfNums keys[i] := by unfold rdOf; rw [Int.toNat_natCast, List.getD_eq_getElem?_getD, List.getElem?_map, List.getElem?_eq_getElem hlt]; rfl
    rw [e, List.drop_eq_getElem_cons hlt]
    have hsz : (strOfNums keys[i]).size = keys[i].length := by simp [strOfNums, ByteArray.size]
    have htl : (strOfNums keys[i]).toList = ([] : List UInt8) ↔ keys[i].length = 0 := by
      have hd : (strOfNums keys[i]).toList.length = keys[i].length := by rw [← hsz, ByteArray.toList_eq, Array.length_toList]; rfl
      rw [← hd]; exact ⟨fun h => by rw [h]; rfl, fun h => List.eq_nil_of_length_eq_zero h⟩
    by_cases h0 : (keys[i]).length = 0
    · rw [if_pos (htl.2 h0)]; simp [kerr, h0]
    · rw [if_neg (fun h => h0 (htl.1 h)), hsz]
      by_cases h8 : (keys[i]).length > 8
      · rw [if_pos (by omega)]; simp [kerr, h0, h8]
      · rw [if_neg (by omega), gC64 (by omega) (by omega), show ((i : Int) + 1) = ((i + 1 : Nat) : Int) by omega, rC_loop0 keys hl a s r c f hf d (i + 1) k (by omega) (by omega)]
        simp only [kerr, if_neg h0, if_neg h8]
theorem rC_ok (keys : List (List Int)) (hl : keys.length < 1000000) (a s r c f : Int) (hf : 0 ≤ f ∧ f < 18446744073709551616) (k : Nat) (hk : 2 * keys.length + 2 < k) : prolepsisref14_Check.f k a s r c f (keys.map strOfNums) = some (gcheck r c f keys) := by
  have hm : (keys.map strOfNums).length = keys.length := List.length_map ..
  unfold prolepsisref14_Check.f gcheck
  rw [rSize, Option.bind_some, hm]
  by_cases h1 : (1 ≤ r ∧ r ≤ 512) ∧ (1 ≤ c ∧ c ≤ 512)
  · rw [if_pos (decide_eq_true h1), if_neg (c := ¬(1 ≤ r ∧ r ≤ 512) ∨ ¬(1 ≤ c ∧ c ≤ 512)) (by omega)]
    by_cases h3 : f = 0
    · rw [if_pos h3, if_pos h3]
    · rw [if_neg h3, if_neg h3]
      by_cases h4 : keys.length > 64
      · rw [if_pos (c := (keys.length : Int) > 64) (by omega), if_pos h4]
      · rw [if_neg (c := (keys.length : Int) > 64) (by omega), if_neg h4]
        have := rC_loop0 keys hl a s r c f ⟨by omega, hf.2⟩ keys.length 0 k (by omega) (by omega)
        rw [List.drop_zero] at this
        exact this
  · rw [if_neg (by rw [decide_eq_false h1]; simp), if_pos (c := ¬(1 ≤ r ∧ r ≤ 512) ∨ ¬(1 ≤ c ∧ c ≤ 512)) (by omega)]
theorem Of_loop (keys : List (List Int)) (hl : keys.length < 1000000) (a s r c f : Int) : ∀ (d i k : Nat), i + d = keys.length → d < k →
    prolepsislaw14_Of.l0 k (i : Int) a s r c f keys a s r c f ((keys.take i).map strOfNums) = some (a, s, r, c, f, keys.map strOfNums)
  | 0, i, k + 1, hi, hk => by
    rw [prolepsislaw14_Of.l0, if_neg (by omega), List.take_of_length_le (by omega)]
  | d + 1, i, k + 1, hi, hk => by
    have hlt : i < keys.length := by omega
    have e : rd_L1 keys (i : Int) = keys[i] := by unfold rd_L1; rw [Int.toNat_natCast, List.getD_eq_getElem?_getD, List.getElem?_eq_getElem hlt]; rfl
    have e2 : (keys.take i).map strOfNums ++ [strOfNums keys[i]] = (keys.take (i + 1)).map strOfNums := by
      rw [List.take_add_one, List.getElem?_eq_getElem hlt, List.map_append]; rfl
    rw [prolepsislaw14_Of.l0, if_pos (by omega), if_pos (by omega), if_pos (by rw [List.length_map, List.length_take]; omega), e, e2, gC64 (by omega) (by omega), show ((i : Int) + 1) = ((i + 1 : Nat) : Int) by omega]
    exact Of_loop keys hl a s r c f d (i + 1) k (by omega) (by omega)
theorem Of_ok (keys : List (List Int)) (hl : keys.length < 1000000) (a s r c f : Int) (k : Nat) (hk : keys.length < k) : prolepsislaw14_Of.f k a s r c f keys = some (a, s, r, c, f, keys.map strOfNums) :=
  Of_loop keys hl a s r c f keys.length 0 k (by omega) hk
theorem numF {b : List Int} {s : RS} (h : At1 b s) (h8 : In8 b) (hl : b.length ≤ 140737488355328) : prolepsisref01_Number.f b (s.t + 1) s.e = some (s.number.1.t + 1, s.number.1.e, s.number.2) := by
  have := h.t0; have := h.t1
  unfold prolepsisref01_Number.f
  rw [if_pos ⟨hl, by omega, by omega, h8⟩, ← h.sh, RS.number_sh]
  rfl
theorem upF {b : List Int} {s : RS} (h : At1 b s) (h8 : In8 b) (hl : b.length ≤ 140737488355328) (m e : Int) (h0 : 0 ≤ m) (h1 : m ≤ 9223372036854775807) : prolepsisref01_Up.f b (s.t + 1) s.e m e = some ((s.up m e).1.t + 1, (s.up m e).1.e, (s.up m e).2) := by
  have := h.t0; have := h.t1
  unfold prolepsisref01_Up.f
  rw [if_pos ⟨hl, by omega, by omega, h8, h0, h1⟩, ← h.sh, RS.up_sh]
  rfl
theorem takeF {b : List Int} {s : RS} (h : At1 b s) (hl : b.length ≤ 140737488355328) (n : Int) : prolepsisref01_Take.f b (s.t + 1) s.e n = some ((s.take n).1.t + 1, (s.take n).1.e, (s.take n).2) := by
  have := h.t0; have := h.t1
  unfold prolepsisref01_Take.f
  rw [if_pos ⟨hl, by omega, by omega⟩, ← h.sh, RS.take_sh]
  rfl
theorem doneF {b : List Int} {s : RS} (h : At1 b s) : prolepsisref01_Done.f b (s.t + 1) s.e = some s.done := by
  have := h.t0; have := h.t1
  unfold prolepsisref01_Done.f RS.done
  have hl : s.l.length = b.length - (s.t + 1).toNat := by rw [h.l, List.length_drop]
  by_cases he : s.e = 0
  · rw [if_pos he, if_pos he]
    by_cases hz : s.l.length = 0
    · rw [if_neg (by omega), if_pos hz, he]
    · rw [if_pos (by omega), if_neg hz]
  · rw [if_neg he, if_neg he]
theorem at1_fail {b : List Int} {s : RS} (h : At1 b s) (x : Int) : At1 b (s.fail x) := by
  unfold RS.fail; split
  · exact ⟨h.l, h.t0, h.t1⟩
  · exact h
theorem at1_u {b : List Int} {s : RS} (h8 : In8 b) (h : At1 b s) : At1 b (kU s) := by
  unfold kU; split
  · exact at1_fail (h.up h8 _ _) _
  · exact h.up h8 _ _
theorem at1_key {b : List Int} {s : RS} (h8 : In8 b) (h : At1 b s) : At1 b (kKey s).1 := (at1_u h8 h).take _
def rFin (a ss r c f : Int) (K : List (List Int)) (S : RS) : Int × Int × Int × Int × Int × List ByteArray × Int :=
  if S.done = 0 then (if gcheck r c f K = 0 then (a, ss, r, c, f, K.map strOfNums, 0) else (0, 0, 0, 0, 0, [], gcheck r c f K)) else (0, 0, 0, 0, 0, [], S.done)
theorem rP_end {b : List Int} (a ss r c f : Int) (hf : 0 ≤ f ∧ f < 18446744073709551616) (n i : Int) (s : RS) (ks : List (List Int)) (k : Nat) (h : At1 b s) (hk : ks.length ≤ 200) (hkk : 500 < k) :
    prolepsisref14_Parse.j2 (k + 1) n i false a ss r c f (ks.map strOfNums) b (s.t + 1) s.e = some (rFin a ss r c f ks s) := by
  rw [prolepsisref14_Parse.j2, if_neg (by decide), doneF h, Option.bind_some]
  unfold rFin
  by_cases hd : s.done = 0
  · rw [if_pos hd, if_pos hd, rC_ok ks (by omega) a ss r c f hf k (by omega), Option.bind_some]
    by_cases hg : gcheck r c f ks = 0
    · rw [if_pos hg, if_pos hg]
    · rw [if_neg hg, if_neg hg]
  · rw [if_neg hd, if_neg hd]
theorem rP_loop {b : List Int} (h8 : In8 b) (hl : b.length ≤ 1000000) (a ss r c f : Int) (hf : 0 ≤ f ∧ f < 18446744073709551616) (n : Nat) (hn : n ≤ 100) : ∀ (d i : Nat) (s : RS) (ks : List (List Int)) (k : Nat), i + d = n → At1 b s → (s.e = 0 ∨ d = 0) → ks.length ≤ i → 600 + 2 * d < k →
    prolepsisref14_Parse.l0 k n i a ss r c f (ks.map strOfNums) b (s.t + 1) s.e = some (rFin a ss r c f (gkeys d s ks).1 (gkeys d s ks).2)
  | 0, i, s, ks, k + 2, hi, h, he, hk, hkk => by
    rw [prolepsisref14_Parse.l0, if_neg (by omega)]
    exact rP_end a ss r c f hf n i s ks k h (by omega) (by omega)
  | d + 1, i, s, ks, k + 2, hi, h, he, hk, hkk => by
    have he0 : s.e = 0 := he.resolve_right (by omega)
    have hb : b.length ≤ 140737488355328 := by omega
    have hu : At1 b (s.up 8 5).1 := h.up h8 8 5
    have hkey : At1 b (kKey s).1 := at1_key h8 h
    have hstep : prolepsisref14_Parse.l0 (k + 2) n i a ss r c f (ks.map strOfNums) b (s.t + 1) s.e = prolepsisref14_Parse.l0 k n ((i + 1 : Nat) : Int) a ss r c f ((ks ++ [(kKey s).2]).map strOfNums) b ((kKey s).1.t + 1) (kKey s).1.e := by
      rw [prolepsisref14_Parse.l0, if_pos (by omega), he0, prolepsisref14_Parse.j2, if_pos (show ((0 : Int) == 0) = true from rfl)]
      have hup := upF h h8 hb 8 5 (by omega) (by omega)
      rw [he0] at hup
      rw [hup, Option.bind_some]
      dsimp only
      have hw : wrap64 ((i : Int) + 1) = ((i + 1 : Nat) : Int) := by rw [gC64 (by omega) (by omega)]; omega
      have hm : (ks ++ [(kKey s).2]).map strOfNums = ks.map strOfNums ++ [strOfNums (kKey s).2] := by simp
      by_cases h1 : (s.up 8 5).1.e = 0
      · rw [if_pos h1]
        by_cases h2 : (s.up 8 5).2 = 0
        · have hku : kU s = (s.up 8 5).1.fail 3 := kU_fail h1 h2
          have ht := takeF (at1_fail hu 3) hb (s.up 8 5).2
          have e3 : ((s.up 8 5).1.fail 3).t = (s.up 8 5).1.t ∧ ((s.up 8 5).1.fail 3).e = 3 := by unfold RS.fail; rw [if_pos h1]; exact ⟨rfl, rfl⟩
          rw [e3.1, e3.2] at ht
          rw [if_pos h2, ht, Option.bind_some]
          dsimp only
          rw [if_pos (by rw [List.length_map]; omega), hw, hm]
          unfold kKey
          rw [hku]
        · have hku : kU s = (s.up 8 5).1 := kU_ok (fun hc => h2 hc.2)
          rw [if_neg h2, takeF hu hb, Option.bind_some]
          dsimp only
          rw [if_pos (by rw [List.length_map]; omega), hw, hm]
          unfold kKey
          rw [hku]
      · have hku : kU s = (s.up 8 5).1 := kU_ok (fun hc => h1 hc.1)
        rw [if_neg h1, takeF hu hb, Option.bind_some]
        dsimp only
        rw [if_pos (by rw [List.length_map]; omega), hw, hm]
        unfold kKey
        rw [hku]
    rw [hstep]
    have hkl : (ks ++ [(kKey s).2]).length ≤ i + 1 := by simp; omega
    by_cases hz : (kKey s).1.e = 0
    · rw [rP_loop h8 hl a ss r c f hf n hn d (i + 1) (kKey s).1 (ks ++ [(kKey s).2]) k (by omega) hkey (Or.inl hz) hkl (by omega)]
      rw [gkeys, if_pos hz]
    · rw [gkeys, if_neg hz]
      obtain ⟨k, rfl⟩ : ∃ q, k = q + 2 := ⟨k - 2, by omega⟩
      rw [prolepsisref14_Parse.l0]
      by_cases hlt : ((i + 1 : Nat) : Int) < (n : Int)
      · rw [if_pos hlt, show ((kKey s).1.e == 0) = false by simpa using hz]
        exact rP_end a ss r c f hf n _ _ _ k hkey (by omega) (by omega)
      · rw [if_neg hlt]
        exact rP_end a ss r c f hf n _ _ _ k hkey (by omega) (by omega)
theorem gkeys_len : ∀ (d : Nat) (s : RS) (ks : List (List Int)), (gkeys d s ks).1.length ≤ ks.length + d
  | 0, s, ks => by simp [gkeys]
  | d + 1, s, ks => by
    unfold gkeys
    split
    · have := gkeys_len d (kKey s).1 (ks ++ [(kKey s).2]); simp at this; omega
    · simp
theorem rParse_ok {b : List Int} (h8 : In8 b) (hl : b.length ≤ 700) {a s r c f e : Int} {keys : List (List Int)} (h : gparse b = (a, s, r, c, f, keys, e)) (k : Nat) (hk : 1000 < k) :
    prolepsisref14_Parse.f k b = some (a, s, r, c, f, keys.map strOfNums, e) := by
  obtain ⟨k, rfl⟩ : ∃ q, k = q + 1 := ⟨k - 1, by omega⟩
  by_cases hbad : b.length = 0 ∨ b.getD 0 0 ≠ 75
  · rw [gparse_bad hbad] at h
    simp only [Prod.mk.injEq] at h
    obtain ⟨rfl, rfl, rfl, rfl, rfl, rfl, rfl⟩ := h
    unfold prolepsisref14_Parse.f
    by_cases h0 : b.length = 0
    · rw [if_pos (by omega), prolepsisref14_Parse.j0, if_pos rfl]; rfl
    · have h1 : b.getD 0 0 ≠ 75 := hbad.resolve_left h0
      rw [if_neg (by omega), if_pos (by omega), show (rd b 0 != 75) = true by unfold rd; simpa using h1, prolepsisref14_Parse.j0, if_pos rfl]; rfl
  · have h0 : b.length ≠ 0 := fun q => hbad (Or.inl q)
    have h1 : b.getD 0 0 = 75 := Classical.byContradiction fun q => hbad (Or.inr q)
    have hb : b.length ≤ 140737488355328 := by omega
    unfold prolepsisref14_Parse.f
    rw [if_neg (by omega), if_pos (by omega), show (rd b 0 != 75) = false by unfold rd; simpa using h1, prolepsisref14_Parse.j0, if_neg (by decide)]
    have a0 : At1 b ⟨b.drop 1, 0, 0⟩ := ⟨rfl, Int.le_refl _, by show (0 : Int) + 1 ≤ _; omega⟩
    obtain ⟨t, ht⟩ : ∃ t, b.drop 1 = t := ⟨_, rfl⟩
    rw [ht] at a0
    have a1 : At1 b (kA t).1 := a0.number h8
    have a2 : At1 b (kB t).1 := a1.number h8
    have a3 : At1 b (kR t).1 := a2.up h8 _ _
    have a4 : At1 b (kC t).1 := a3.up h8 _ _
    have a5 : At1 b (kF t).1 := a4.number h8
    have a6 : At1 b (kN t).1 := a5.up h8 _ _
    have n0 : prolepsisref01_Number.f b 1 0 = some ((kA t).1.t + 1, (kA t).1.e, (kA t).2) := numF a0 h8 hb
    have n1 : prolepsisref01_Number.f b ((kA t).1.t + 1) (kA t).1.e = some ((kB t).1.t + 1, (kB t).1.e, (kB t).2) := numF a1 h8 hb
    have n2 : prolepsisref01_Up.f b ((kB t).1.t + 1) (kB t).1.e 512 5 = some ((kR t).1.t + 1, (kR t).1.e, (kR t).2) := upF a2 h8 hb 512 5 (by omega) (by omega)
    have n3 : prolepsisref01_Up.f b ((kR t).1.t + 1) (kR t).1.e 512 5 = some ((kC t).1.t + 1, (kC t).1.e, (kC t).2) := upF a3 h8 hb 512 5 (by omega) (by omega)
    have n4 : prolepsisref01_Number.f b ((kC t).1.t + 1) (kC t).1.e = some ((kF t).1.t + 1, (kF t).1.e, (kF t).2) := numF a4 h8 hb
    have n5 : prolepsisref01_Up.f b ((kF t).1.t + 1) (kF t).1.e 64 6 = some ((kN t).1.t + 1, (kN t).1.e, (kN t).2) := upF a5 h8 hb 64 6 (by omega) (by omega)
    rw [n0, Option.bind_some]; dsimp only
    rw [n1, Option.bind_some]; dsimp only
    rw [n2, Option.bind_some]; dsimp only
    rw [n3, Option.bind_some]; dsimp only
    rw [n4, Option.bind_some]; dsimp only
    rw [n5, Option.bind_some]; dsimp only
    have ht8 : In8 t := by rw [← ht]; exact h8.drop 1
    have hs0 : RS.fine ⟨t, 0, 0⟩ := ⟨ht8, Int.le_refl _, by show (0 : Int) + (t.length : Int) ≤ _; rw [← ht, List.length_drop]; omega⟩
    have f1 : (kA t).1.fine := RS.number_fine hs0
    have f2 : (kB t).1.fine := RS.number_fine f1
    have f3 : (kR t).1.fine := RS.up_fine f2 _ _
    have f4 : (kC t).1.fine := RS.up_fine f3 _ _
    have f5 : (kF t).1.fine := RS.number_fine f4
    have hfr : 0 ≤ (kF t).2 ∧ (kF t).2 < 18446744073709551616 := RS.number_range f4
    have hnr := RS.up_range f5 64 6
    have hn0 : 0 ≤ (kN t).2 := hnr.1
    have hn1 : (kN t).2 ≤ 64 := by rcases hnr.2 with q | q; exact q; (show (kN t).2 ≤ 64); unfold kN; omega
    have hez : (kN t).1.e = 0 ∨ (kN t).2.toNat = 0 := by
      by_cases q : (kN t).1.e = 0
      · exact Or.inl q
      · right
        have : (kN t).2 = 0 := up_zero (s := (kF t).1) (m := 64) (e := 6) q
        omega
    have hlp := rP_loop h8 (by omega) (kA t).2 (kB t).2 (kR t).2 (kC t).2 (kF t).2 hfr (kN t).2.toNat (by omega) (kN t).2.toNat 0 (kN t).1 [] k (by omega) a6 hez (by simp) (by omega)
    rw [show (((kN t).2.toNat : Nat) : Int) = (kN t).2 by omega] at hlp
    refine Eq.trans hlp ?_
    have hK : (gkeys (kN t).2.toNat (kN t).1 []) = kK t := rfl
    rw [hK]
    unfold rFin
    by_cases he : kE (b.drop 1) = 0
    · rw [gparse_ok hbad he, ht] at h
      rw [ht] at he
      simp only [Prod.mk.injEq] at h
      obtain ⟨rfl, rfl, rfl, rfl, rfl, rfl, rfl⟩ := h
      by_cases hd : (kK t).2.done = 0
      · rw [kE_ck hd] at he
        rw [if_pos hd, if_pos he]
      · rw [kE_no hd] at he
        exact absurd he hd
    · rw [gparse_no hbad he, ht] at h
      rw [ht] at he
      simp only [Prod.mk.injEq] at h
      obtain ⟨rfl, rfl, rfl, rfl, rfl, rfl, rfl⟩ := h
      by_cases hd : (kK t).2.done = 0
      · rw [kE_ck hd] at he ⊢
        rw [if_pos hd, if_neg he]; rfl
      · rw [kE_no hd]
        rw [if_neg hd]; rfl
theorem gparse_keys {b : List Int} (h8 : In8 b) (hl : b.length ≤ 700) {a s r c f e : Int} {keys : List (List Int)} (h : gparse b = (a, s, r, c, f, keys, e)) : keys.length ≤ 1000 := by
  unfold gparse at h
  split at h
  · simp only [Prod.mk.injEq] at h; obtain ⟨_, _, _, _, _, rfl, _⟩ := h; simp
  · split at h
    · rename_i he
      simp only [Prod.mk.injEq] at h
      obtain ⟨_, _, _, _, _, rfl, _⟩ := h
      by_cases hd : (kK (b.drop 1)).2.done = 0
      · rw [kE_ck hd] at he
        unfold gcheck at he
        split at he
        · exact absurd he (by decide)
        · split at he
          · exact absurd he (by decide)
          · split at he
            · exact absurd he (by decide)
            · omega
      · rw [kE_no hd] at he; exact absurd he hd
    · simp only [Prod.mk.injEq] at h; obtain ⟨_, _, _, _, _, rfl, _⟩ := h; simp
theorem rSame_l (a s r c f : Int) (ks : List ByteArray) (hl : ks.length ≤ 1000000) : ∀ (d i k : Nat), i + d = ks.length → d < k → prolepsisref14_Same.l0 k (i : Int) a s r c f ks a s r c f ks = some true
  | 0, i, k + 1, hi, hk => by rw [prolepsisref14_Same.l0, if_neg (by omega)]
  | d + 1, i, k + 1, hi, hk => by
    rw [prolepsisref14_Same.l0, if_pos (by omega), if_pos (by omega), if_pos (by omega), if_pos rfl, gC64 (by omega) (by omega), show ((i : Int) + 1) = ((i + 1 : Nat) : Int) by omega]
    exact rSame_l a s r c f ks hl d (i + 1) k (by omega) (by omega)
theorem rSame_refl (a s r c f : Int) (ks : List ByteArray) (k : Nat) (hk : ks.length + 2 < k ∧ ks.length ≤ 1000000) : prolepsisref14_Same.f k a s r c f ks a s r c f ks = some true := by
  obtain ⟨k, rfl⟩ : ∃ q, k = q + 1 := ⟨k - 1, by omega⟩
  unfold prolepsisref14_Same.f
  rw [if_pos rfl, if_pos rfl, if_pos rfl, if_pos rfl, if_pos rfl, prolepsisref14_Same.j0, if_neg (by simp)]
  exact rSame_l a s r c f ks hk.2 ks.length 0 k (by omega) (by omega)
theorem mn_take7 (l : List Int) : l.take (mn (l.length : Int) 700).toNat = l.take 700 ∧ 0 ≤ mn (l.length : Int) 700 ∧ mn (l.length : Int) 700 ≤ (l.length : Int) := by
  unfold mn
  by_cases h : (700 : Int) < l.length
  · rw [if_pos h]; exact ⟨rfl, by omega, by omega⟩
  · rw [if_neg h, Int.toNat_natCast]; exact ⟨by rw [List.take_length, List.take_of_length_le (by omega)], by omega, by omega⟩
theorem same_refl (b : List Int) : prolepsisref01_Same.f b b = some true := by unfold prolepsisref01_Same.f; simp
theorem KeygramParses : prolepsislaw14_KeygramParses.Pure := by
  intro l hl hl2 hw
  have h8 : In8 l := fun x hx => by have := Go.bounds_u8 (hw x hx); omega
  obtain ⟨e1, e2, e3⟩ := mn_take7 l
  refine ⟨3000, ?_⟩
  unfold prolepsislaw14_KeygramParses.f
  rw [if_pos e2, if_pos e3, e1]
  have hb8 : In8 (l.take 700) := h8.take 700
  have hbl : (l.take 700).length ≤ 700 := by rw [List.length_take]; omega
  obtain ⟨b, hb⟩ : ∃ b, l.take 700 = b := ⟨_, rfl⟩
  rw [hb] at hb8 hbl ⊢
  obtain ⟨a, s, r, c, f, keys, e, hp⟩ : ∃ a s r c f keys e, gparse b = (a, s, r, c, f, keys, e) := ⟨_, _, _, _, _, _, _, rfl⟩
  rw [show keygram_Parse.f b = some (gparse b) by unfold keygram_Parse.f; rw [if_pos ⟨by omega, hb8⟩], Option.bind_some, hp, rParse_ok hb8 hbl hp 3000 (by omega), Option.bind_some]
  dsimp only
  have hkl : keys.length ≤ 1000 := gparse_keys hb8 hbl hp
  rw [if_pos rfl, Of_ok keys (by omega) a s r c f 3000 (by omega), Option.bind_some]
  dsimp only
  rw [rSame_refl a s r c f _ 3000 (by rw [List.length_map]; omega), Option.bind_some]
  have hkn : prolepsislaw14_known.f 2999 = some true := known14 2999 (by omega)
  rw [show (3000 : Nat) = 2999 + 1 from rfl, prolepsislaw14_KeygramParses.j0, if_neg (by decide)]
  by_cases he : e = 0
  · subst he
    obtain ⟨g1, g2, g3, g4, g5⟩ := gparse_bytes hb8 hp
    rw [if_pos rfl, show keygram_Bytes.f a s r c f keys = some (gbytes a s r c f keys, 0) by unfold keygram_Bytes.f; rw [if_pos ⟨by omega, g3, g4, g5⟩, if_pos g1, g1], Option.bind_some, hkn, Option.bind_some, if_pos rfl]
    dsimp only
    rw [if_pos rfl, g2, same_refl]
    rfl
  · rw [if_neg he, hkn]
    rfl
end Go.Proofs.Ytpephndecdkfhaa.Pure
