/- What the law KeyBytes reaches, in plain Lean. -/
import Derived.Test.YtglcopljhanhmaaPKeyBytesx
import Derived.Test.YtglcopljhanhmaaKeyG
import Derived.Test.YtglcopljhanhmaaUtfB
import Derived.Test.YtglcopljhanhmaaUtfI
import Derived.OpenShut
namespace Go.Proofs.Ytglcopljhanhmaa.Pure
open Go.RowKit Go.Proofs.Ytglcopljhanhmaa.PKeyBytes Go.Proofs.YtglcopljhanhmaaW.PrintWords Go.Proofs.YtglcopljhanhmaaW.PrintLast Go.Proofs.YtglcopljhanhmaaW.PrintMore
set_option linter.unusedVariables false
set_option linter.unusedSimpArgs false
theorem rScalar (r : Int) : prolepsisref02_Scalar.f r = some (scalarZ r) := by
  unfold prolepsisref02_Scalar.f scalarZ
  by_cases a : 0 ≤ r <;> by_cases b : r ≤ 1114111 <;> by_cases c : r < 55296 <;> by_cases d : 57343 < r <;> simp [*] <;> omega
def flat (p : List (Int × Int)) : List Int := p.flatMap fun x => [x.1, x.2]
theorem flat_len (p : List (Int × Int)) : (flat p).length = 2 * p.length := by
  induction p with
  | nil => rfl
  | cons x t ih => simp [flat] at *; omega
theorem flat_rd (p : List (Int × Int)) : ∀ j, j < p.length → rd (flat p) ((2 * j : Nat) : Int) = (p.getD j (0, 0)).1 ∧ rd (flat p) ((2 * j + 1 : Nat) : Int) = (p.getD j (0, 0)).2 := by
  induction p with
  | nil => intro j h; simp at h
  | cons x t ih =>
    intro j h
    match j with
    | 0 => exact ⟨rfl, rfl⟩
    | j + 1 =>
      have := ih j (by simpa using h)
      have e : ∀ i : Nat, rd (flat (x :: t)) ((i + 2 : Nat) : Int) = rd (flat t) (i : Int) := fun i => by unfold rd; rw [Int.toNat_natCast, Int.toNat_natCast]; rfl
      rw [show 2 * (j + 1) = 2 * j + 2 by omega, show 2 * j + 2 + 1 = (2 * j + 1) + 2 by omega, e, e, this.1, this.2]
      exact ⟨rfl, rfl⟩
theorem in_l (r : Int) (p : List (Int × Int)) (hp : p.length ≤ 1000) : ∀ (d j k : Nat), j + d = p.length → d < k → prolepsisref03_in.l0 k r (flat p) ((2 * j : Nat) : Int) = some (inL r (p.drop j)) := by
  intro d
  induction d with
  | zero =>
    intro j k hj hk
    obtain ⟨k, rfl⟩ := kp hk
    have hf := flat_len p
    rw [prolepsisref03_in.l0, w64 (by omega) (by omega), if_neg (by omega), List.drop_eq_nil_of_le (by omega)]
    rfl
  | succ d ih =>
    intro j k hj hk
    obtain ⟨k, rfl⟩ := kp hk
    have hf := flat_len p
    obtain ⟨e1, e2⟩ := flat_rd p j (by omega)
    have hd : p.drop j = p.getD j (0, 0) :: p.drop (j + 1) := by rw [List.drop_eq_getElem_cons (show j < p.length by omega)]; simp [List.getD_eq_getElem?_getD, show j < p.length by omega]
    have ih' := ih (j + 1) k (by omega) (by omega)
    have h1 : ((2 * j : Nat) : Int) + 1 = ((2 * j + 1 : Nat) : Int) := by omega
    have h2 : ((2 * j : Nat) : Int) + 2 = ((2 * (j + 1) : Nat) : Int) := by omega
    rw [prolepsisref03_in.l0, h1, h2, w64 (x := ((2 * j + 1 : Nat) : Int)) (by omega) (by omega), w64 (x := ((2 * (j + 1) : Nat) : Int)) (by omega) (by omega), e1, e2, ih', hd,
      if_pos (by omega), if_pos (show (0 : Int) ≤ ((2 * j : Nat) : Int) by omega), if_pos (by omega), if_pos (show (0 : Int) ≤ ((2 * j + 1 : Nat) : Int) by omega)]
    by_cases a : (p.getD j (0, 0)).1 ≤ r <;> by_cases b : r ≤ (p.getD j (0, 0)).2 <;> simp only [List.getD_eq_getElem?_getD] at a b <;> simp [inL, a, b]
theorem in_ok (r : Int) (p : List (Int × Int)) (l : List Int) (h : l = flat p) (k : Nat) (hk : p.length < k) (hp : p.length ≤ 1000) : prolepsisref03_in.f k r l = some (inL r p) := by
  subst h
  unfold prolepsisref03_in.f
  have := in_l r p hp p.length 0 k (by omega) hk
  simpa using this
theorem rOf (r : Int) (k : Nat) (hk : 20 ≤ k) : prolepsisref03_Of.f k r = some (wOf r) := by
  obtain ⟨k, rfl⟩ : ∃ m, k = m + 1 := ⟨k - 1, by omega⟩
  have j1 : prolepsisref03_Of.j0 (k + 1) r true = some (-1) := by rw [prolepsisref03_Of.j0, if_pos rfl]
  have j2 : prolepsisref03_Of.j0 (k + 1) r false = some (if inL r markL = true then 0 else if inL r wideL = true then 2 else 1) := by
    rw [prolepsisref03_Of.j0, if_neg (by simp), in_ok r markL [768, 879, 8203, 8207, 8400, 8447, 65024, 65039, 65056, 65071] rfl k (by simp [markL]; omega) (by simp [markL]), in_ok r wideL [4352, 4447, 11904, 12350, 12353, 42191, 44032, 55203, 63744, 64255, 65072, 65135, 65280, 65376, 65504, 65510, 127744, 128591, 129280, 129535, 131072, 262141] rfl k (by simp [wideL]; omega) (by simp [wideL])]
    simp only [Option.bind_some]
    split <;> (try split) <;> rfl
  unfold prolepsisref03_Of.f wOf
  by_cases a : r < 32
  · rw [if_pos a, if_pos (.inl a), j1]
  · rw [if_neg a, in_ok r [(127, 159)] [127, 159] rfl (k + 1) (by simp; omega) (by simp)]
    simp only [Option.bind_some]
    by_cases b : 127 ≤ r ∧ r ≤ 159
    · rw [if_pos (by simp [inL, b]), if_pos (.inr (.inl b)), j1]
    · rw [if_neg (by simp only [inL, List.any_cons, List.any_nil, Bool.or_false, Bool.and_eq_true, decide_eq_true_eq]; exact b), rScalar]
      simp only [Option.bind_some]
      cases hs : scalarZ r
      · rw [if_pos (.inr (.inr rfl))]; exact j1
      · rw [if_neg (by simp; omega)]; exact j2
theorem in32 {x : Int} (h : (Lit.int .i32 x).wf = true) : -2147483648 ≤ x ∧ x ≤ 2147483647 := by have := bounds_i32 h; omega
theorem mn_len {n : Nat} {c : Int} (hc : 0 ≤ c) : 0 ≤ mn (n : Int) c ∧ mn (n : Int) c ≤ n ∧ mn (n : Int) c ≤ c := by unfold mn; split <;> omega
theorem rBytes_j (x : Int) (h0 : 0 ≤ x) (h1 : x ≤ 1114111) (k : Nat) : prolepsisref02_Bytes.j0 (k + 1) x = some (enc x) := by
  unfold enc
  rw [prolepsisref02_Bytes.j0]
  simp only [td h0, tm h0]
  rw [w64 (x := x / 64) (by omega) (by omega), w64 (x := x / 4096) (by omega) (by omega), w64 (x := x / 262144) (by omega) (by omega), tm (x := x / 64) (by omega), tm (x := x / 4096) (by omega)]
  by_cases a : x < 128
  · rw [if_pos a, if_pos a, show x % 256 = x by omega]
  · rw [if_neg a, if_neg a]
    by_cases b : x < 2048
    · rw [if_pos b, if_pos b, w64 (by omega) (by omega), w64 (by omega) (by omega), show (192 + x / 64) % 256 = 192 + x / 64 by omega, show (128 + x % 64) % 256 = 128 + x % 64 by omega]
    · rw [if_neg b, if_neg b]
      by_cases c : x < 65536
      · rw [if_pos c, if_pos c, w64 (by omega) (by omega), w64 (by omega) (by omega), w64 (by omega) (by omega), show (224 + x / 4096) % 256 = 224 + x / 4096 by omega, show (128 + x / 64 % 64) % 256 = 128 + x / 64 % 64 by omega, show (128 + x % 64) % 256 = 128 + x % 64 by omega]
      · rw [if_neg c, if_neg c, w64 (by omega) (by omega), w64 (by omega) (by omega), w64 (by omega) (by omega), w64 (by omega) (by omega), show (240 + x / 262144) % 256 = 240 + x / 262144 by omega, show (128 + x / 4096 % 64) % 256 = 128 + x / 4096 % 64 by omega, show (128 + x / 64 % 64) % 256 = 128 + x / 64 % 64 by omega, show (128 + x % 64) % 256 = 128 + x % 64 by omega]
/-- What is no scalar is told as Broken. -/
def mend (r : Int) : Int := if scalarZ r = true then r else 65533
theorem mend_scalar (r : Int) : scalarZ (mend r) = true := by unfold mend; split <;> simp_all; decide
theorem rBytes_ok (r : Int) (k : Nat) (hk : 1 ≤ k) : prolepsisref02_Bytes.f k r = some (enc (mend r)) := by
  obtain ⟨k, rfl⟩ : ∃ m, k = m + 1 := ⟨k - 1, by omega⟩
  unfold prolepsisref02_Bytes.f mend
  rw [rScalar]
  simp only [Option.bind_some]
  by_cases h : scalarZ r = true
  · rw [if_pos h, if_pos h]
    rw [scalar_iff] at h
    exact rBytes_j r (by omega) (by omega) k
  · rw [if_neg h, if_neg h]
    exact rBytes_j 65533 (by omega) (by omega) k
theorem encs_len (l : List Int) : (l.flatMap enc).length ≤ 4 * l.length := by
  induction l with
  | nil => simp
  | cons a t ih => rw [List.flatMap_cons, List.length_append, List.length_cons]; have := enc_len a; omega
theorem flat_in8 {l : List Int} (h : ∀ x ∈ l, scalarZ x = true) : In8u (l.flatMap enc) := by
  intro x hx
  obtain ⟨a, ha, hx⟩ := List.mem_flatMap.1 hx
  exact enc_in8 (h a ha) x hx
theorem scalar_mend {r : Int} (h : scalarZ r = true) : mend r = r := by unfold mend; rw [if_pos h]
theorem or128f : ∀ x : Fin 256, Go.bits .or .u8 128 (Go.bits .and .u8 ((x.val : Nat) : Int) 63) = 128 + ((x.val % 64 : Nat) : Int) := by decide +kernel
theorem or240f : ∀ x : Fin 8, Go.bits .or .u8 240 ((x.val : Nat) : Int) = 240 + ((x.val : Nat) : Int) := by decide +kernel
theorem or224f : ∀ x : Fin 16, Go.bits .or .u8 224 ((x.val : Nat) : Int) = 224 + ((x.val : Nat) : Int) := by decide +kernel
theorem or192f : ∀ x : Fin 32, Go.bits .or .u8 192 ((x.val : Nat) : Int) = 192 + ((x.val : Nat) : Int) := by decide +kernel
theorem or0f : ∀ x : Fin 128, Go.bits .or .u8 0 ((x.val : Nat) : Int) = ((x.val : Nat) : Int) := by decide +kernel
theorem or128m (y : Int) : Go.bits .or .u8 128 (Go.bits .and .u8 (y % 256) 63) = 128 + y % 64 := by
  have := or128f ⟨(y % 256).toNat, by omega⟩
  simp only at this
  rw [show (((y % 256).toNat : Nat) : Int) = y % 256 by omega] at this
  rw [this]; omega
theorem or240 {y : Int} (h : 0 ≤ y ∧ y < 8) : Go.bits .or .u8 240 (y % 256) = 240 + y := by
  have := or240f ⟨y.toNat, by omega⟩
  simp only at this
  rw [show ((y.toNat : Nat) : Int) = y by omega] at this
  rw [show y % 256 = y by omega, this]
theorem or224 {y : Int} (h : 0 ≤ y ∧ y < 16) : Go.bits .or .u8 224 (y % 256) = 224 + y := by
  have := or224f ⟨y.toNat, by omega⟩
  simp only at this
  rw [show ((y.toNat : Nat) : Int) = y by omega] at this
  rw [show y % 256 = y by omega, this]
theorem or192 {y : Int} (h : 0 ≤ y ∧ y < 32) : Go.bits .or .u8 192 (y % 256) = 192 + y := by
  have := or192f ⟨y.toNat, by omega⟩
  simp only at this
  rw [show ((y.toNat : Nat) : Int) = y by omega] at this
  rw [show y % 256 = y by omega, this]
theorem or0 {y : Int} (h : 0 ≤ y ∧ y < 128) : Go.bits .or .u8 0 (y % 256) = y := by
  have := or0f ⟨y.toNat, by omega⟩
  simp only at this
  rw [show ((y.toNat : Nat) : Int) = y by omega] at this
  rw [show y % 256 = y by omega, this]
theorem shr18 (x : Int) : shr .i32 x 18 = x / 262144 := by unfold shr; rfl
theorem shr12 (x : Int) : shr .i32 x 12 = x / 4096 := by unfold shr; rfl
theorem shr6 (x : Int) : shr .i32 x 6 = x / 64 := by unfold shr; rfl
theorem shr0 (x : Int) : shr .i32 x 0 = x := by unfold shr; show x / 1 = x; omega
theorem uScalar (r : Int) : utf_Scalar.f r = some (scalarZ r) := by
  unfold utf_Scalar.f scalarZ
  by_cases a : 0 ≤ r <;> by_cases b : r ≤ 1114111 <;> by_cases c : r < 55296 <;> by_cases d : 57343 < r <;> simp [*] <;> omega
theorem uBytes_j1 (l : List Int) (n i : Int) (out : List Int) (x : Int) (h0 : 0 ≤ x) (h1 : x ≤ 1114111) (ho : out.length ≤ 1000000) (k : Nat) : utf_Bytes.j1 (k + 6) out x l n i = utf_Bytes.l0 (k + if x < 128 then 3 else if x < 2048 then 2 else if x < 65536 then 1 else 0) (out ++ enc x) l n (wrap64 (i + 1)) := by
  rw [utf_Bytes.j1]
  by_cases a : x < 128
  · rw [if_neg (by omega), if_neg (by omega), if_neg (by omega), utf_Bytes.j2, if_pos (by omega), if_pos (by omega), shr0, or0 (by omega), utf_Bytes.l1, if_neg (by omega), enc1 a, if_pos a]
  · by_cases b : x < 2048
    · rw [if_neg (by omega), if_neg (by omega), if_pos (by omega), utf_Bytes.j2, if_pos (by omega), if_pos (by omega), shr6, or192 (by omega), utf_Bytes.l1, if_pos (by omega), show wrap64 (6 - 6) = 0 by rw [w64 (by omega) (by omega)]; rfl, if_pos (by omega), if_pos (by simp; omega), shr0, or128m, utf_Bytes.l1, if_neg (by omega), enc2 (by omega) b, if_neg a, if_pos b]
      simp
    · by_cases c : x < 65536
      · rw [if_neg (by omega), if_pos (by omega), utf_Bytes.j2, if_pos (by omega), if_pos (by omega), shr12, or224 (by omega), utf_Bytes.l1, if_pos (by omega), show wrap64 (12 - 6) = 6 by rw [w64 (by omega) (by omega)]; rfl, if_pos (by omega), if_pos (by simp; omega), shr6, or128m,
          utf_Bytes.l1, if_pos (by omega), show wrap64 (6 - 6) = 0 by rw [w64 (by omega) (by omega)]; rfl, if_pos (by omega), if_pos (by simp; omega), shr0, or128m, utf_Bytes.l1, if_neg (by omega), enc3 (by omega) c, if_neg a, if_neg b, if_pos c]
        simp
      · rw [if_pos (by omega), utf_Bytes.j2, if_pos (by omega), if_pos (by omega), shr18, or240 (by omega), utf_Bytes.l1, if_pos (by omega), show wrap64 (18 - 6) = 12 by rw [w64 (by omega) (by omega)]; rfl, if_pos (by omega), if_pos (by simp; omega), shr12, or128m,
          utf_Bytes.l1, if_pos (by omega), show wrap64 (12 - 6) = 6 by rw [w64 (by omega) (by omega)]; rfl, if_pos (by omega), if_pos (by simp; omega), shr6, or128m,
          utf_Bytes.l1, if_pos (by omega), show wrap64 (6 - 6) = 0 by rw [w64 (by omega) (by omega)]; rfl, if_pos (by omega), if_pos (by simp; omega), shr0, or128m, utf_Bytes.l1, if_neg (by omega), enc4 (by omega), if_neg a, if_neg b, if_neg c]
        simp
theorem uBytes_l (l : List Int) (hl : l.length ≤ 100000) : ∀ (d i k : Nat) (out : List Int), i + d = l.length → out.length ≤ 4 * i → 7 * d + 2 ≤ k → utf_Bytes.l0 k out l (l.length : Int) (i : Int) = some (out ++ (l.drop i).flatMap (fun r => enc (mend r))) := by
  intro d
  induction d with
  | zero =>
    intro i k out hi ho hk
    obtain ⟨k, rfl⟩ : ∃ m, k = m + 1 := ⟨k - 1, by omega⟩
    rw [utf_Bytes.l0, if_neg (by omega), List.drop_eq_nil_of_le (by omega)]
    simp
  | succ d ih =>
    intro i k out hi ho hk
    obtain ⟨k, rfl⟩ : ∃ m, k = m + 7 := ⟨k - 7, by omega⟩
    have he := enc_len (mend (rd l (i : Int)))
    have hm := (scalar_iff _).1 (mend_scalar (rd l (i : Int)))
    have hb := uBytes_j1 l (l.length : Int) (i : Int) out (mend (rd l (i : Int))) (by omega) (by omega) (by omega) k
    have hif : (if mend (rd l (i : Int)) < 128 then 3 else if mend (rd l (i : Int)) < 2048 then 2 else if mend (rd l (i : Int)) < 65536 then 1 else 0) ≥ (0 : Nat) := Nat.zero_le _
    rw [w64 (by omega) (by omega), cast1, ih (i + 1) _ _ (by omega) (by rw [List.length_append]; omega) (by omega)] at hb
    rw [utf_Bytes.l0, if_pos (by omega), if_pos (by omega), if_pos (by omega), uScalar]
    simp only [Option.bind_some]
    have hs : (if scalarZ (rd l (i : Int)) = true then utf_Bytes.j1 (k + 6) out (rd l (i : Int)) l (l.length : Int) (i : Int) else utf_Bytes.j1 (k + 6) out 65533 l (l.length : Int) (i : Int)) = utf_Bytes.j1 (k + 6) out (mend (rd l (i : Int))) l (l.length : Int) (i : Int) := by
      unfold mend; split <;> rfl
    rw [hs, hb, drop_rd (show i < l.length by omega), List.flatMap_cons, List.append_assoc]
theorem uBytes_ok (l : List Int) (hl : l.length ≤ 100000) (k : Nat) (hk : 7 * l.length + 2 ≤ k) : utf_Bytes.f k l = some (l.flatMap (fun r => enc (mend r))) := by
  unfold utf_Bytes.f
  have := uBytes_l l hl l.length 0 k [] (by omega) (by simp) hk
  simpa using this
theorem flat_map (l : List Int) : l.flatMap (fun r => enc (mend r)) = (l.map mend).flatMap enc := by
  induction l with
  | nil => rfl
  | cons a t ih => rw [List.flatMap_cons, List.map_cons, List.flatMap_cons, ih]
theorem mends_scalar (l : List Int) : ∀ x ∈ l.map mend, scalarZ x = true := by
  intro x hx
  obtain ⟨a, -, rfl⟩ := List.mem_map.1 hx
  exact mend_scalar a
theorem mends_id {l : List Int} (h : ∀ x ∈ l, scalarZ x = true) : l.map mend = l := by
  induction l with
  | nil => rfl
  | cons a t ih => rw [List.map_cons, scalar_mend (h a (by simp)), ih (fun x hx => h x (by simp [hx]))]
theorem text_all (x : Int) : prolepsisref22_text.f x = some (strOfNums (textK x)) := by
  unfold prolepsisref22_text.f textK
  repeat' split
  all_goals first | rfl | omega | skip
theorem text_ne (x : Int) : ((strOfNums (textK x)).toList != ([] : List UInt8)) = (textK x != []) := by
  unfold textK
  repeat' split
  all_goals decide +kernel
theorem ref_bytes (k r : Int) (hB : prolepsisref02_Bytes.f 100 r = some (enc (mendK r))) : prolepsisref22_Bytes.f 100 k r = some (strOfNums (bytesK k r).1, (bytesK k r).2) := by
  unfold prolepsisref22_Bytes.f bytesK
  by_cases hk : k = 1
  · rw [if_pos hk, if_pos hk, rOf r 100 (by omega), Option.bind_some]
    by_cases hw : wOf r = 1
    · rw [if_pos hw, if_pos (show plainK r = true by unfold plainK; rw [hw]; rfl), hB]
      rfl
    · rw [if_neg hw, if_neg (show ¬ plainK r = true by unfold plainK; simpa using hw)]
      rfl
  · rw [if_neg hk, if_neg hk, text_all, Option.bind_some, Option.bind_some, text_ne]
theorem ref_moves (k r : Int) : prolepsisref22_Moves.f 100 k r = some (movesK k r) := by
  have h0 : ∀ (x : Bool), prolepsisref22_Moves.j0 100 x k r = some (if x = true then (0, 1) else if k = 2 ∨ k = 3 then (0, -1) else if k = 5 then (-1, 0) else if k = 6 then (1, 0) else (0, 0)) := by
    intro x
    rw [prolepsisref22_Moves.j0]
    cases x
    · by_cases h2 : k = 2
      · subst h2; simp [prolepsisref22_Moves.j1]
      · by_cases h3 : k = 3
        · subst h3; simp [prolepsisref22_Moves.j1]
        · by_cases h5 : k = 5
          · subst h5; simp [prolepsisref22_Moves.j1]
          · by_cases h6 : k = 6
            · subst h6; simp [prolepsisref22_Moves.j1]
            · simp [prolepsisref22_Moves.j1, h2, h3, h5, h6]
    · simp
  unfold prolepsisref22_Moves.f movesK stepK
  by_cases hk : k = 1
  · subst hk
    rw [if_pos rfl, rOf r 100 (by omega), Option.bind_some]
    by_cases hw : wOf r = 1
    · have hp : plainK r = true := by unfold plainK; rw [hw]; rfl
      rw [if_pos hw, h0]
      simp [hp]
    · have hp : plainK r = false := by unfold plainK; simpa using hw
      rw [if_neg hw, h0]
      simp [hp]
  · rw [if_neg hk, h0]
    by_cases h4 : k = 4
    · subst h4; simp
    · by_cases h2 : k = 2
      · subst h2; simp
      · by_cases h3 : k = 3
        · subst h3; simp
        · simp [hk, h2, h3, h4]
theorem ref_word (k : Int) : prolepsisref22_Word.f k = some (strOfNums (wordK k)) := by
  unfold prolepsisref22_Word.f
  by_cases h : 1 ≤ k ∧ k ≤ 8
  · have hk : k = 1 ∨ k = 2 ∨ k = 3 ∨ k = 4 ∨ k = 5 ∨ k = 6 ∨ k = 7 ∨ k = 8 := by omega
    clear h
    rcases hk with rfl | rfl | rfl | rfl | rfl | rfl | rfl | rfl <;> first | decide +kernel | kernel_rfl
  · have h0 : wordK k = [] := by unfold wordK; rw [if_neg (by omega), if_neg (by omega), if_neg (by omega), if_neg (by omega), if_neg (by omega), if_neg (by omega), if_neg (by omega), if_neg (by omega)]
    rw [h0]
    by_cases h1 : k < 1
    · rw [if_pos h1]; rfl
    · rw [if_neg h1, if_pos (by omega)]; rfl
theorem plain_in {r : Int} (h : plainK r = true) : 32 ≤ r ∧ scalarZ r = true := by
  unfold plainK at h
  have h1 : wOf r = 1 := by simpa using h
  unfold wOf at h1
  by_cases hc : r < 32 ∨ (127 ≤ r ∧ r ≤ 159) ∨ scalarZ r = false
  · rw [if_pos hc] at h1; cases h1
  · refine ⟨by omega, ?_⟩
    cases hs : scalarZ r
    · exact absurd (.inr (.inr hs)) hc
    · rfl
theorem kind_enc {r : Int} (h : 32 ≤ r) : kindZ (enc r) = 0 := by
  have key : ∀ (a : Int) (t : List Int), 32 ≤ a → kindZ (a :: t) = 0 := by
    intro a t ha
    unfold kindZ
    rw [if_neg (by intro e; injection e with e _; omega), if_neg (by intro e; injection e with e _; omega), if_neg (by intro e; injection e with e _; omega), if_neg (by intro e; injection e with e _; omega), if_neg (by intro e; injection e with e _; omega), if_neg (by intro e; injection e with e _; omega)]
  unfold enc
  repeat' split
  all_goals exact key _ _ (by omega)
theorem of_bytes (k r : Int) (h : (bytesK k r).2 = true) : ∃ r', ofK (bytesK k r).1 = (k, r') ∧ (k = 1 → r' = r) := by
  by_cases hk : k = 1
  · subst hk
    unfold bytesK at h ⊢
    rw [if_pos rfl] at h ⊢
    by_cases hp : plainK r = true
    · rw [if_pos hp]
      obtain ⟨h32, hs⟩ := plain_in hp
      have hm : mendK r = r := by unfold mendK; rw [if_pos hs]
      refine ⟨r, ?_, fun _ => rfl⟩
      dsimp only
      rw [hm]
      have hpe := parse_enc r hs []
      have hre := runes_enc r hs []
      rw [List.append_nil] at hpe hre
      obtain ⟨a, t, hat⟩ := enc_ne r
      have hne : enc r ≠ [] := by rw [hat]; simp
      have hfk : firstK (enc r) = (r, ((enc r).length : Int)) := by unfold firstK; rw [if_neg hne, hpe]
      have hlen := enc_len r
      unfold ofK
      rw [if_neg (by rw [kind_enc h32]; simp), hfk, if_neg]
      rintro (h | h | h | h)
      · dsimp only at h; omega
      · exact h rfl
      · unfold validK at h
        rw [hre, runesZ_nil] at h
        simp at h
      · rw [hp] at h; cases h
    · rw [if_neg hp] at h; cases h
  · have ht : (textK k != []) = true := by unfold bytesK at h; rw [if_neg hk] at h; exact h
    have hb : (bytesK k r).1 = textK k := by unfold bytesK; rw [if_neg hk]
    rw [hb]
    have hkk : k = 2 ∨ k = 3 ∨ k = 4 ∨ k = 5 ∨ k = 6 ∨ k = 7 := by
      by_cases hc : 2 ≤ k ∧ k ≤ 7
      · omega
      · exfalso
        have : textK k = [] := by unfold textK; rw [if_neg (by omega), if_neg (by omega), if_neg (by omega), if_neg (by omega), if_neg (by omega), if_neg (by omega)]
        rw [this] at ht
        cases ht
    rcases hkk with rfl | rfl | rfl | rfl | rfl | rfl
    · exact ⟨0, by decide +kernel, fun e => absurd e hk⟩
    · exact ⟨0, by decide +kernel, fun e => absurd e hk⟩
    · exact ⟨0, by decide +kernel, fun e => absurd e hk⟩
    · exact ⟨0, by decide +kernel, fun e => absurd e hk⟩
    · exact ⟨0, by decide +kernel, fun e => absurd e hk⟩
    · exact ⟨0, by decide +kernel, fun e => absurd e hk⟩
theorem bytes_in8 (k r : Int) : In8u (bytesK k r).1 ∧ (bytesK k r).1.length ≤ 4 := by
  unfold bytesK
  split
  · split
    · rename_i hp
      obtain ⟨h32, hs⟩ := plain_in hp
      have hm : mendK r = r := by unfold mendK; rw [if_pos hs]
      dsimp only
      rw [hm]
      refine ⟨?_, (enc_len r).2⟩
      have hs' := (scalar_iff r).1 hs
      intro x hx
      unfold enc at hx
      repeat' split at hx
      all_goals (simp at hx; omega)
    · exact ⟨(fun x hx => absurd hx (by simp)), by simp⟩
  · dsimp only
    unfold textK
    repeat' split
    all_goals exact ⟨(by intro x hx; first | (simp at hx; done) | (simp at hx; omega)), by simp⟩
theorem ub_one (r : Int) : utf_Bytes.f 100 [r] = some (enc (mendK r)) := by
  rw [uBytes_ok [r] (by simp) 100 (by simp), List.flatMap_cons, List.flatMap_nil, List.append_nil]
  rfl
theorem rb_one (r : Int) : prolepsisref02_Bytes.f 100 r = some (enc (mendK r)) := by rw [rBytes_ok r 100 (by omega)]; rfl
end Go.Proofs.Ytglcopljhanhmaa.Pure
