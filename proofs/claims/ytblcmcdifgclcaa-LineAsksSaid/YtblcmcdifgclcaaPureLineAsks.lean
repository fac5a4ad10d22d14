/- LineAsks, the plain part. No condition but that the numbers are of their kinds. -/
import Derived.Test.YtblcmcdifgclcaaPLineAsksL
import Derived.Test.YtblcmcdifgclcaaUtfA
import Derived.OpenShut
namespace Go.Proofs.Ytblcmcdifgclcaa.Pure
open Go.RowKit Go.Proofs.Ytblcmcdifgclcaa.PLineAsks Go.Proofs.YtblcmcdifgclcaaW.PrintWords Go.Proofs.YtblcmcdifgclcaaW.PrintLast Go.Proofs.YtblcmcdifgclcaaW.PrintMore
set_option linter.unusedVariables false
set_option linter.unusedSimpArgs false
theorem w64 {x : Int} (h0 : -9223372036854775808 ≤ x) (h1 : x < 9223372036854775808) : wrap64 x = x := by unfold wrap64; omega
theorem kp {d k : Nat} (h : d < k) : ∃ m, k = m + 1 := ⟨k - 1, by omega⟩
theorem drop_rd {xs : List Int} {i : Nat} (h : i < xs.length) : xs.drop i = rd xs (i : Int) :: xs.drop (i + 1) := by
  rw [List.drop_eq_getElem_cons h]
  simp [rd, List.getD_eq_getElem?_getD, h]
theorem rd_in {xs : List Int} {i : Nat} (h : i < xs.length) : rd xs (i : Int) ∈ xs := by
  simp [rd, List.getD_eq_getElem?_getD, h]
theorem cast1 (i : Nat) : ((i : Int) + 1) = ((i + 1 : Nat) : Int) := by omega
theorem wOf_bounds (r : Int) : -1 ≤ wOf r ∧ wOf r ≤ 2 := by unfold wOf; split <;> (try split) <;> (try split) <;> omega
theorem wPos_bounds (r : Int) : 0 ≤ wPos r ∧ wPos r ≤ 2 := by have := wOf_bounds r; unfold wPos; split <;> omega
theorem rScalar (r : Int) : prolepsisref02_Scalar.f r = some (scalarZ r) := by
  unfold prolepsisref02_Scalar.f scalarZ
  by_cases a : 0 ≤ r <;> by_cases b : r ≤ 1114111 <;> by_cases c : r < 55296 <;> by_cases d : 57343 < r <;> simp [*] <;> omega
def flat (p : List (Int × Int)) : List Int := p.flatMap fun x => [x.1, x.2]
theorem flat_len (p : List (Int × Int)) : (flat p).length = 2 * p.length := by
  induction p with
  | nil => rfl
  | cons x t ih => simp [flat] at *; omega
theorem flat_rd (p : List (Int × Int)) : ∀ j, j < p.length → rd (flat p) ((2 * j : Nat) : Int) = (p.getD j (0, 0)).1 ∧ rd (flat p) ((2 * j + 1 : Nat) : Int) = (p.getD j (0, 0)).2 := by
  induction p with
  | nil => intro j h; simp at h
  | cons x t ih =>
    intro j h
    match j with
    | 0 => exact ⟨rfl, rfl⟩
    | j + 1 =>
      have := ih j (by simpa using h)
      have e : ∀ i : Nat, rd (flat (x :: t)) ((i + 2 : Nat) : Int) = rd (flat t) (i : Int) := fun i => by unfold rd; rw [Int.toNat_natCast, Int.toNat_natCast]; rfl
      rw [show 2 * (j + 1) = 2 * j + 2 by omega, show 2 * j + 2 + 1 = (2 * j + 1) + 2 by omega, e, e, this.1, this.2]
      exact ⟨rfl, rfl⟩
theorem in_l (r : Int) (p : List (Int × Int)) (hp : p.length ≤ 1000) : ∀ (d j k : Nat), j + d = p.length → d < k → prolepsisref03_in.l0 k r (flat p) ((2 * j : Nat) : Int) = some (inL r (p.drop j)) := by
  intro d
  induction d with
  | zero =>
    intro j k hj hk
    obtain ⟨k, rfl⟩ := kp hk
    have hf := flat_len p
    rw [prolepsisref03_in.l0, w64 (by omega) (by omega), if_neg (by omega), List.drop_eq_nil_of_le (by omega)]
    rfl
  | succ d ih =>
    intro j k hj hk
    obtain ⟨k, rfl⟩ := kp hk
    have hf := flat_len p
    obtain ⟨e1, e2⟩ := flat_rd p j (by omega)
    have hd : p.drop j = p.getD j (0, 0) :: p.drop (j + 1) := by rw [List.drop_eq_getElem_cons (show j < p.length by omega)]; simp [List.getD_eq_getElem?_getD, show j < p.length by omega]
    have ih' := ih (j + 1) k (by omega) (by omega)
    have h1 : ((2 * j : Nat) : Int) + 1 = ((2 * j + 1 : Nat) : Int) := by omega
    have h2 : ((2 * j : Nat) : Int) + 2 = ((2 * (j + 1) : Nat) : Int) := by omega
    rw [prolepsisref03_in.l0, h1, h2, w64 (x := ((2 * j + 1 : Nat) : Int)) (by omega) (by omega), w64 (x := ((2 * (j + 1) : Nat) : Int)) (by omega) (by omega), e1, e2, ih', hd,
      if_pos (by omega), if_pos (show (0 : Int) ≤ ((2 * j : Nat) : Int) by omega), if_pos (by omega), if_pos (show (0 : Int) ≤ ((2 * j + 1 : Nat) : Int) by omega)]
    by_cases a : (p.getD j (0, 0)).1 ≤ r <;> by_cases b : r ≤ (p.getD j (0, 0)).2 <;> simp only [List.getD_eq_getElem?_getD] at a b <;> simp [inL, a, b]
theorem in_ok (r : Int) (p : List (Int × Int)) (l : List Int) (h : l = flat p) (k : Nat) (hk : p.length < k) (hp : p.length ≤ 1000) : prolepsisref03_in.f k r l = some (inL r p) := by
  subst h
  unfold prolepsisref03_in.f
  have := in_l r p hp p.length 0 k (by omega) hk
  simpa using this
theorem rOf (r : Int) (k : Nat) (hk : 20 ≤ k) : prolepsisref03_Of.f k r = some (wOf r) := by
  obtain ⟨k, rfl⟩ : ∃ m, k = m + 1 := ⟨k - 1, by omega⟩
  have j1 : prolepsisref03_Of.j0 (k + 1) r true = some (-1) := by rw [prolepsisref03_Of.j0, if_pos rfl]
  have j2 : prolepsisref03_Of.j0 (k + 1) r false = some (if inL r markL = true then 0 else if inL r wideL = true then 2 else 1) := by
    rw [prolepsisref03_Of.j0, if_neg (by simp), in_ok r markL [768, 879, 8203, 8207, 8400, 8447, 65024, 65039, 65056, 65071] rfl k (by simp [markL]; omega) (by simp [markL]), in_ok r wideL [4352, 4447, 11904, 12350, 12353, 42191, 44032, 55203, 63744, 64255, 65072, 65135, 65280, 65376, 65504, 65510, 127744, 128591, 129280, 129535, 131072, 262141] rfl k (by simp [wideL]; omega) (by simp [wideL])]
    simp only [Option.bind_some]
    split <;> (try split) <;> rfl
  unfold prolepsisref03_Of.f wOf
  by_cases a : r < 32
  · rw [if_pos a, if_pos (.inl a), j1]
  · rw [if_neg a, in_ok r [(127, 159)] [127, 159] rfl (k + 1) (by simp; omega) (by simp)]
    simp only [Option.bind_some]
    by_cases b : 127 ≤ r ∧ r ≤ 159
    · rw [if_pos (by simp [inL, b]), if_pos (.inr (.inl b)), j1]
    · rw [if_neg (by simp only [inL, List.any_cons, List.any_nil, Bool.or_false, Bool.and_eq_true, decide_eq_true_eq]; exact b), rScalar]
      simp only [Option.bind_some]
      cases hs : scalarZ r
      · rw [if_pos (.inr (.inr rfl))]; exact j1
      · rw [if_neg (by simp; omega)]; exact j2
theorem in32 {x : Int} (h : (Lit.int .i32 x).wf = true) : -2147483648 ≤ x ∧ x ≤ 2147483647 := by have := bounds_i32 h; omega
theorem mn_len {n : Nat} {c : Int} (hc : 0 ≤ c) : 0 ≤ mn (n : Int) c ∧ mn (n : Int) c ≤ n ∧ mn (n : Int) c ≤ c := by unfold mn; split <;> omega
theorem td {x n : Int} (h : 0 ≤ x) : Int.tdiv x n = x / n := Int.tdiv_eq_ediv_of_nonneg h
theorem tm {x n : Int} (h : 0 ≤ x) : Int.tmod x n = x % n := Int.tmod_eq_emod_of_nonneg h
theorem enc1 {r : Int} (h : r < 128) : enc r = [r] := by unfold enc; rw [if_pos h]
theorem enc2 {r : Int} (h0 : 128 ≤ r) (h : r < 2048) : enc r = [192 + r / 64, 128 + r % 64] := by unfold enc; rw [if_neg (by omega), if_pos h]
theorem enc3 {r : Int} (h0 : 2048 ≤ r) (h : r < 65536) : enc r = [224 + r / 4096, 128 + r / 64 % 64, 128 + r % 64] := by unfold enc; rw [if_neg (by omega), if_neg (by omega), if_pos h]
theorem enc4 {r : Int} (h0 : 65536 ≤ r) : enc r = [240 + r / 262144, 128 + r / 4096 % 64, 128 + r / 64 % 64, 128 + r % 64] := by unfold enc; rw [if_neg (by omega), if_neg (by omega), if_neg (by omega)]
theorem enc_len (r : Int) : 1 ≤ (enc r).length ∧ (enc r).length ≤ 4 := by unfold enc; split <;> (try split) <;> (try split) <;> simp
theorem rBytes_j (x : Int) (h0 : 0 ≤ x) (h1 : x ≤ 1114111) (k : Nat) : prolepsisref02_Bytes.j0 (k + 1) x = some (enc x) := by
  unfold enc
  rw [prolepsisref02_Bytes.j0]
  simp only [td h0, tm h0]
  rw [w64 (x := x / 64) (by omega) (by omega), w64 (x := x / 4096) (by omega) (by omega), w64 (x := x / 262144) (by omega) (by omega), tm (x := x / 64) (by omega), tm (x := x / 4096) (by omega)]
  by_cases a : x < 128
  · rw [if_pos a, if_pos a, show x % 256 = x by omega]
  · rw [if_neg a, if_neg a]
    by_cases b : x < 2048
    · rw [if_pos b, if_pos b, w64 (by omega) (by omega), w64 (by omega) (by omega), show (192 + x / 64) % 256 = 192 + x / 64 by omega, show (128 + x % 64) % 256 = 128 + x % 64 by omega]
    · rw [if_neg b, if_neg b]
      by_cases c : x < 65536
      · rw [if_pos c, if_pos c, w64 (by omega) (by omega), w64 (by omega) (by omega), w64 (by omega) (by omega), show (224 + x / 4096) % 256 = 224 + x / 4096 by omega, show (128 + x / 64 % 64) % 256 = 128 + x / 64 % 64 by omega, show (128 + x % 64) % 256 = 128 + x % 64 by omega]
      · rw [if_neg c, if_neg c, w64 (by omega) (by omega), w64 (by omega) (by omega), w64 (by omega) (by omega), w64 (by omega) (by omega), show (240 + x / 262144) % 256 = 240 + x / 262144 by omega, show (128 + x / 4096 % 64) % 256 = 128 + x / 4096 % 64 by omega, show (128 + x / 64 % 64) % 256 = 128 + x / 64 % 64 by omega, show (128 + x % 64) % 256 = 128 + x % 64 by omega]
/-- What is no scalar is told as Broken. -/
def mend (r : Int) : Int := if scalarZ r = true then r else 65533
theorem mend_scalar (r : Int) : scalarZ (mend r) = true := by unfold mend; split <;> simp_all; decide
theorem rBytes_ok (r : Int) (k : Nat) (hk : 1 ≤ k) : prolepsisref02_Bytes.f k r = some (enc (mend r)) := by
  obtain ⟨k, rfl⟩ : ∃ m, k = m + 1 := ⟨k - 1, by omega⟩
  unfold prolepsisref02_Bytes.f mend
  rw [rScalar]
  simp only [Option.bind_some]
  by_cases h : scalarZ r = true
  · rw [if_pos h, if_pos h]
    rw [scalar_iff] at h
    exact rBytes_j r (by omega) (by omega) k
  · rw [if_neg h, if_neg h]
    exact rBytes_j 65533 (by omega) (by omega) k
theorem scalar_mend {r : Int} (h : scalarZ r = true) : mend r = r := by unfold mend; rw [if_pos h]
theorem encs_len (l : List Int) : (l.flatMap enc).length ≤ 4 * l.length := by
  induction l with
  | nil => simp
  | cons a t ih => rw [List.flatMap_cons, List.length_append, List.length_cons]; have := enc_len a; omega
theorem rAll_l (l : List Int) (hl : l.length ≤ 1000000) : ∀ (d i k : Nat) (out : List Int), i + d = l.length → out.length ≤ 4 * i → d + 2 ≤ k → prolepsisref02_All.l0 k l out (i : Int) = some (out ++ (l.drop i).flatMap (fun r => enc (mend r))) := by
  intro d
  induction d with
  | zero =>
    intro i k out hi ho hk
    obtain ⟨k, rfl⟩ : ∃ m, k = m + 1 := ⟨k - 1, by omega⟩
    rw [prolepsisref02_All.l0, if_neg (by omega), List.drop_eq_nil_of_le (by omega)]
    simp
  | succ d ih =>
    intro i k out hi ho hk
    obtain ⟨k, rfl⟩ : ∃ m, k = m + 1 := ⟨k - 1, by omega⟩
    have he := enc_len (mend (rd l (i : Int)))
    rw [prolepsisref02_All.l0, if_pos (by omega), if_pos (by omega), rBytes_ok _ k (by omega)]
    simp only [Option.bind_some]
    rw [if_pos (by omega), w64 (by omega) (by omega), cast1, ih (i + 1) k _ (by omega) (by rw [List.length_append]; omega) (by omega), drop_rd (show i < l.length by omega), List.flatMap_cons, List.append_assoc]
theorem rAll_ok (l : List Int) (hl : l.length ≤ 1000000) (k : Nat) (hk : l.length + 2 ≤ k) : prolepsisref02_All.f k l = some (l.flatMap (fun r => enc (mend r))) := by
  unfold prolepsisref02_All.f
  have := rAll_l l hl l.length 0 k [] (by omega) (by simp) hk
  simpa using this
theorem flat_mend {l : List Int} (h : ∀ x ∈ l, scalarZ x = true) : l.flatMap (fun r => enc (mend r)) = l.flatMap enc := by
  induction l with
  | nil => rfl
  | cons a t ih => rw [List.flatMap_cons, List.flatMap_cons, scalar_mend (h a (by simp)), ih (fun x hx => h x (by simp [hx]))]
theorem or128f : ∀ x : Fin 256, Go.bits .or .u8 128 (Go.bits .and .u8 ((x.val : Nat) : Int) 63) = 128 + ((x.val % 64 : Nat) : Int) := by decide +kernel
theorem or240f : ∀ x : Fin 8, Go.bits .or .u8 240 ((x.val : Nat) : Int) = 240 + ((x.val : Nat) : Int) := by decide +kernel
theorem or224f : ∀ x : Fin 16, Go.bits .or .u8 224 ((x.val : Nat) : Int) = 224 + ((x.val : Nat) : Int) := by decide +kernel
theorem or192f : ∀ x : Fin 32, Go.bits .or .u8 192 ((x.val : Nat) : Int) = 192 + ((x.val : Nat) : Int) := by decide +kernel
theorem or0f : ∀ x : Fin 128, Go.bits .or .u8 0 ((x.val : Nat) : Int) = ((x.val : Nat) : Int) := by decide +kernel
theorem or128m (y : Int) : Go.bits .or .u8 128 (Go.bits .and .u8 (y % 256) 63) = 128 + y % 64 := by
  have := or128f ⟨(y % 256).toNat, by omega⟩
  simp only at this
  rw [show (((y % 256).toNat : Nat) : Int) = y % 256 by omega] at this
  rw [this]; omega
theorem or240 {y : Int} (h : 0 ≤ y ∧ y < 8) : Go.bits .or .u8 240 (y % 256) = 240 + y := by
  have := or240f ⟨y.toNat, by omega⟩
  simp only at this
  rw [show ((y.toNat : Nat) : Int) = y by omega] at this
  rw [show y % 256 = y by omega, this]
theorem or224 {y : Int} (h : 0 ≤ y ∧ y < 16) : Go.bits .or .u8 224 (y % 256) = 224 + y := by
  have := or224f ⟨y.toNat, by omega⟩
  simp only at this
  rw [show ((y.toNat : Nat) : Int) = y by omega] at this
  rw [show y % 256 = y by omega, this]
theorem or192 {y : Int} (h : 0 ≤ y ∧ y < 32) : Go.bits .or .u8 192 (y % 256) = 192 + y := by
  have := or192f ⟨y.toNat, by omega⟩
  simp only at this
  rw [show ((y.toNat : Nat) : Int) = y by omega] at this
  rw [show y % 256 = y by omega, this]
theorem or0 {y : Int} (h : 0 ≤ y ∧ y < 128) : Go.bits .or .u8 0 (y % 256) = y := by
  have := or0f ⟨y.toNat, by omega⟩
  simp only at this
  rw [show ((y.toNat : Nat) : Int) = y by omega] at this
  rw [show y % 256 = y by omega, this]
theorem shr18 (x : Int) : shr .i32 x 18 = x / 262144 := by unfold shr; rfl
theorem shr12 (x : Int) : shr .i32 x 12 = x / 4096 := by unfold shr; rfl
theorem shr6 (x : Int) : shr .i32 x 6 = x / 64 := by unfold shr; rfl
theorem shr0 (x : Int) : shr .i32 x 0 = x := by unfold shr; show x / 1 = x; omega
theorem uScalar (r : Int) : utf_Scalar.f r = some (scalarZ r) := by
  unfold utf_Scalar.f scalarZ
  by_cases a : 0 ≤ r <;> by_cases b : r ≤ 1114111 <;> by_cases c : r < 55296 <;> by_cases d : 57343 < r <;> simp [*] <;> omega
theorem uBytes_j1 (l : List Int) (n i : Int) (out : List Int) (x : Int) (h0 : 0 ≤ x) (h1 : x ≤ 1114111) (ho : out.length ≤ 1000000) (k : Nat) : utf_Bytes.j1 (k + 6) out x l n i = utf_Bytes.l0 (k + if x < 128 then 3 else if x < 2048 then 2 else if x < 65536 then 1 else 0) (out ++ enc x) l n (wrap64 (i + 1)) := by
  rw [utf_Bytes.j1]
  by_cases a : x < 128
  · rw [if_neg (by omega), if_neg (by omega), if_neg (by omega), utf_Bytes.j2, if_pos (by omega), if_pos (by omega), shr0, or0 (by omega), utf_Bytes.l1, if_neg (by omega), enc1 a, if_pos a]
  · by_cases b : x < 2048
    · rw [if_neg (by omega), if_neg (by omega), if_pos (by omega), utf_Bytes.j2, if_pos (by omega), if_pos (by omega), shr6, or192 (by omega), utf_Bytes.l1, if_pos (by omega), show wrap64 (6 - 6) = 0 by rw [w64 (by omega) (by omega)]; rfl, if_pos (by omega), if_pos (by simp; omega), shr0, or128m, utf_Bytes.l1, if_neg (by omega), enc2 (by omega) b, if_neg a, if_pos b]
      simp
    · by_cases c : x < 65536
      · rw [if_neg (by omega), if_pos (by omega), utf_Bytes.j2, if_pos (by omega), if_pos (by omega), shr12, or224 (by omega), utf_Bytes.l1, if_pos (by omega), show wrap64 (12 - 6) = 6 by rw [w64 (by omega) (by omega)]; rfl, if_pos (by omega), if_pos (by simp; omega), shr6, or128m,
          utf_Bytes.l1, if_pos (by omega), show wrap64 (6 - 6) = 0 by rw [w64 (by omega) (by omega)]; rfl, if_pos (by omega), if_pos (by simp; omega), shr0, or128m, utf_Bytes.l1, if_neg (by omega), enc3 (by omega) c, if_neg a, if_neg b, if_pos c]
        simp
      · rw [if_pos (by omega), utf_Bytes.j2, if_pos (by omega), if_pos (by omega), shr18, or240 (by omega), utf_Bytes.l1, if_pos (by omega), show wrap64 (18 - 6) = 12 by rw [w64 (by omega) (by omega)]; rfl, if_pos (by omega), if_pos (by simp; omega), shr12, or128m,
          utf_Bytes.l1, if_pos (by omega), show wrap64 (12 - 6) = 6 by rw [w64 (by omega) (by omega)]; rfl, if_pos (by omega), if_pos (by simp; omega), shr6, or128m,
          utf_Bytes.l1, if_pos (by omega), show wrap64 (6 - 6) = 0 by rw [w64 (by omega) (by omega)]; rfl, if_pos (by omega), if_pos (by simp; omega), shr0, or128m, utf_Bytes.l1, if_neg (by omega), enc4 (by omega), if_neg a, if_neg b, if_neg c]
        simp
theorem uBytes_l (l : List Int) (hl : l.length ≤ 100000) : ∀ (d i k : Nat) (out : List Int), i + d = l.length → out.length ≤ 4 * i → 7 * d + 2 ≤ k → utf_Bytes.l0 k out l (l.length : Int) (i : Int) = some (out ++ (l.drop i).flatMap (fun r => enc (mend r))) := by
  intro d
  induction d with
  | zero =>
    intro i k out hi ho hk
    obtain ⟨k, rfl⟩ : ∃ m, k = m + 1 := ⟨k - 1, by omega⟩
    rw [utf_Bytes.l0, if_neg (by omega), List.drop_eq_nil_of_le (by omega)]
    simp
  | succ d ih =>
    intro i k out hi ho hk
    obtain ⟨k, rfl⟩ : ∃ m, k = m + 7 := ⟨k - 7, by omega⟩
    have he := enc_len (mend (rd l (i : Int)))
    have hm := (scalar_iff _).1 (mend_scalar (rd l (i : Int)))
    have hb := uBytes_j1 l (l.length : Int) (i : Int) out (mend (rd l (i : Int))) (by omega) (by omega) (by omega) k
    have hif : (if mend (rd l (i : Int)) < 128 then 3 else if mend (rd l (i : Int)) < 2048 then 2 else if mend (rd l (i : Int)) < 65536 then 1 else 0) ≥ (0 : Nat) := Nat.zero_le _
    rw [w64 (by omega) (by omega), cast1, ih (i + 1) _ _ (by omega) (by rw [List.length_append]; omega) (by omega)] at hb
    rw [utf_Bytes.l0, if_pos (by omega), if_pos (by omega), if_pos (by omega), uScalar]
    simp only [Option.bind_some]
    have hs : (if scalarZ (rd l (i : Int)) = true then utf_Bytes.j1 (k + 6) out (rd l (i : Int)) l (l.length : Int) (i : Int) else utf_Bytes.j1 (k + 6) out 65533 l (l.length : Int) (i : Int)) = utf_Bytes.j1 (k + 6) out (mend (rd l (i : Int))) l (l.length : Int) (i : Int) := by
      unfold mend; split <;> rfl
    rw [hs, hb, drop_rd (show i < l.length by omega), List.flatMap_cons, List.append_assoc]
theorem uBytes_ok (l : List Int) (hl : l.length ≤ 100000) (k : Nat) (hk : 7 * l.length + 2 ≤ k) : utf_Bytes.f k l = some (l.flatMap (fun r => enc (mend r))) := by
  unfold utf_Bytes.f
  have := uBytes_l l hl l.length 0 k [] (by omega) (by simp) hk
  simpa using this
theorem flat_map (l : List Int) : l.flatMap (fun r => enc (mend r)) = (l.map mend).flatMap enc := by
  induction l with
  | nil => rfl
  | cons a t ih => rw [List.flatMap_cons, List.map_cons, List.flatMap_cons, ih]
theorem mends_scalar (l : List Int) : ∀ x ∈ l.map mend, scalarZ x = true := by
  intro x hx
  obtain ⟨a, -, rfl⟩ := List.mem_map.1 hx
  exact mend_scalar a
theorem mends_id {l : List Int} (h : ∀ x ∈ l, scalarZ x = true) : l.map mend = l := by
  induction l with
  | nil => rfl
  | cons a t ih => rw [List.map_cons, scalar_mend (h a (by simp)), ih (fun x hx => h x (by simp [hx]))]
theorem CS_ext {x y : CS} (h0 : x.f0 = y.f0) (h1 : x.f1.f0 = y.f1.f0) (h2 : x.f1.f1 = y.f1.f1) (h3 : x.f2 = y.f2) (h4 : x.f3.f0 = y.f3.f0) (h5 : x.f3.f1 = y.f3.f1) (h6 : x.f3.f2 = y.f3.f2) : x = y := by
  obtain ⟨a, ⟨b, c⟩, d, ⟨e, f, g⟩⟩ := x
  obtain ⟨a', ⟨b', c'⟩, d', ⟨e', f', g'⟩⟩ := y
  simp only at h0 h1 h2 h3 h4 h5 h6
  subst h0 h1 h2 h3 h4 h5 h6
  rfl
instance : DecidableEq CS := fun x y => decidable_of_iff (x.f0 = y.f0 ∧ x.f1.f0 = y.f1.f0 ∧ x.f1.f1 = y.f1.f1 ∧ x.f2 = y.f2 ∧ x.f3.f0 = y.f3.f0 ∧ x.f3.f1 = y.f3.f1 ∧ x.f3.f2 = y.f3.f2) ⟨fun ⟨a, b, c, d, e, f, g⟩ => CS_ext a b c d e f g, fun h => by subst h; simp⟩
theorem in8 {x : Int} (h : (Lit.int .u8 x).wf = true) : 0 ≤ x ∧ x ≤ 255 := by have := bounds_u8 h; omega
theorem Same_l (a : List CS) (hl : a.length ≤ 1000000) (b : List CS) (hb : b.length = a.length) : ∀ (d i k : Nat), i + d = a.length → d < k → cell_Cell_97.l0 k a b (a.length : Int) (i : Int) = some (decide (a.drop i = b.drop i)) := by
  intro d
  induction d with
  | zero =>
    intro i k hi hk
    obtain ⟨k, rfl⟩ := kp hk
    rw [cell_Cell_97.l0, if_neg (by omega), List.drop_eq_nil_of_le (by omega), List.drop_eq_nil_of_le (by omega)]
    simp
  | succ d ih =>
    intro i k hi hk
    obtain ⟨k, rfl⟩ := kp hk
    rw [cell_Cell_97.l0, if_pos (by omega), if_pos (by omega), if_pos (by omega), if_pos (by omega)]
    have ha : a.drop i = rd_T26 a (i : Int) :: a.drop (i + 1) := by
      rw [List.drop_eq_getElem_cons (show i < a.length by omega)]
      congr 1
      have := rd_get a i (by omega)
      rw [List.getElem?_eq_getElem (by omega)] at this
      exact Option.some.inj this
    have hb' : b.drop i = rd_T26 b (i : Int) :: b.drop (i + 1) := by
      rw [List.drop_eq_getElem_cons (show i < b.length by omega)]
      congr 1
      have := rd_get b i (by omega)
      rw [List.getElem?_eq_getElem (by omega)] at this
      exact Option.some.inj this
    rw [ha, hb']
    generalize rd_T26 a (i : Int) = x
    generalize rd_T26 b (i : Int) = y
    by_cases e : x = y
    · subst e
      rw [if_neg (by simp), w64 (by omega) (by omega), cast1, ih (i + 1) k (by omega) (by omega)]
      simp
    · rw [if_pos]
      · simp [e]
      · by_cases h0 : x.f0 = y.f0 <;> by_cases h1 : x.f1.f0 = y.f1.f0 <;> by_cases h2 : x.f1.f1 = y.f1.f1 <;> by_cases h3 : x.f2 = y.f2 <;> by_cases h4 : x.f3.f0 = y.f3.f0 <;> by_cases h5 : x.f3.f1 = y.f3.f1 <;> by_cases h6 : x.f3.f2 = y.f3.f2 <;> first | exact absurd (CS_ext h0 h1 h2 h3 h4 h5 h6) e | simp [*]
theorem Same_ok (a b : List CS) (hl : a.length ≤ 1000000) (k : Nat) (hk : a.length < k) : line_Same.f k a b = some (decide (a = b)) := by
  unfold line_Same.f cell_Cell_97.f
  by_cases h : (a.length : Int) = (b.length : Int)
  · rw [if_pos h]
    have := Same_l a hl b (by omega) a.length 0 k (by omega) hk
    simp only [List.drop_zero] at this
    rw [show ((0 : Int)) = ((0 : Nat) : Int) by rfl, this]
    rfl
  · rw [if_neg h]
    have : a ≠ b := fun e => h (by rw [e])
    simp [this]
def blankP (p0 p1 p2 : Int) : CS := ⟨32, ⟨0, 0⟩, 1, ⟨p0, p1, p2⟩⟩
theorem Right_ok (l : List CS) (h8 : ∀ x ∈ l, 0 ≤ x.f2 ∧ x.f2 ≤ 255) (hl : l.length ≤ 1000000) (k : Nat) (hk : l.length < k) : line_Right.f l = some (rightL l) := by
  unfold line_Right.f
  rw [if_pos ⟨List.all_eq_true.2 (fun x hx => decide_eq_true (h8 x hx)), hl⟩]
theorem Cut_ok (l : List CS) : prolepsislaw06_Cut.f l = some (l.take 30) := by
  have hn := mn_len (n := l.length) (c := 30) (by omega)
  have ht : l.take (mn (l.length : Int) 30).toNat = l.take 30 := by
    by_cases h : 30 ≤ l.length
    · rw [show (mn (l.length : Int) 30).toNat = 30 by unfold mn; split <;> omega]
    · rw [List.take_of_length_le (by unfold mn; split <;> omega), List.take_of_length_le (by omega)]
  unfold prolepsislaw06_Cut.f
  simp only [Option.bind_some]
  rw [if_pos hn.1, if_pos hn.2.1, ht]
  simp only [Option.bind_some, List.nil_append, List.length_nil, Nat.zero_add]
  rw [if_pos (by rw [List.length_take]; omega)]
abbrev RC := S32
def toR (x : CS) : RC := ⟨x.f0, ⟨x.f1.f0, x.f1.f1⟩, x.f2, ⟨x.f3.f0, x.f3.f1, x.f3.f2⟩⟩
theorem toR_inj {x y : CS} (h : toR x = toR y) : x = y := by
  obtain ⟨a, ⟨b, c⟩, d, ⟨e, f, g⟩⟩ := x
  obtain ⟨a', ⟨b', c'⟩, d', ⟨e', f', g'⟩⟩ := y
  unfold toR at h
  injection h with h0 h1 h2 h3
  injection h1 with h10 h11
  injection h3 with h30 h31 h32
  simp only at h0 h10 h11 h2 h30 h31 h32
  subst h0 h10 h11 h2 h30 h31 h32
  rfl
theorem map_inj {a b : List CS} (h : a.map toR = b.map toR) : a = b := by
  refine List.ext_getElem? fun i => ?_
  have := congrArg (fun l : List RC => l[i]?) h
  simp only [List.getElem?_map] at this
  cases h1 : a[i]? <;> cases h2 : b[i]? <;> rw [h1, h2] at this <;> simp at this
  rw [toR_inj this]
def W32 (x : CS) : Prop := (-2147483648 ≤ x.f0 ∧ x.f0 ≤ 2147483647) ∧ (-2147483648 ≤ x.f1.f0 ∧ x.f1.f0 ≤ 2147483647) ∧ (-2147483648 ≤ x.f1.f1 ∧ x.f1.f1 ≤ 2147483647) ∧ (0 ≤ x.f2 ∧ x.f2 ≤ 255)
theorem rd_mem (l : List CS) (i : Nat) (h : i < l.length) : rd_T26 l (i : Int) ∈ l := List.mem_of_getElem? (rd_get l i h)
theorem rd_R (l : List CS) (i : Nat) (h : i < l.length) : rd_T32 (l.map toR) (i : Int) = toR (rd_T26 l (i : Int)) := by
  have h1 := rd_get l i h
  unfold rd_T32
  rw [Int.toNat_natCast, List.getD_eq_getElem?_getD, List.getElem?_map, h1]
  rfl
theorem lOf1_ok (x : CS) (h : W32 x) : prolepsislaw05_Of.f x.f0 x.f1.f0 x.f1.f1 x.f2 x.f3.f0 x.f3.f1 x.f3.f2 = some (x.f0, x.f1.f0, x.f1.f1, x.f2, x.f3.f0, x.f3.f1, x.f3.f2) := by
  obtain ⟨h0, h1, h2, -⟩ := h
  unfold prolepsislaw05_Of.f
  rw [w64 (by omega) (by omega), w64 (by omega) (by omega), w64 (by omega) (by omega)]
theorem Of_l (l : List CS) (h : ∀ x ∈ l, W32 x) (hl : l.length ≤ 1000000) : ∀ (d i k : Nat) (o : List RC), i + d = l.length → o.length = i → d < k → prolepsislaw06_Of.l0 k l o (i : Int) = some (o ++ (l.drop i).map toR) := by
  intro d
  induction d with
  | zero =>
    intro i k o hi ho hk
    obtain ⟨k, rfl⟩ := kp hk
    rw [prolepsislaw06_Of.l0, if_neg (by omega), List.drop_eq_nil_of_le (by omega)]
    simp
  | succ d ih =>
    intro i k o hi ho hk
    obtain ⟨k, rfl⟩ := kp hk
    have hil : i < l.length := by omega
    have hd : l.drop i = rd_T26 l (i : Int) :: l.drop (i + 1) := by
      rw [List.drop_eq_getElem_cons hil]
      congr 1
      have := rd_get l i hil
      rw [List.getElem?_eq_getElem hil] at this
      exact Option.some.inj this
    rw [prolepsislaw06_Of.l0, if_pos (by omega), if_pos (by omega), lOf1_ok _ (h _ (rd_mem l i hil))]
    simp only [Option.bind_some]
    rw [if_pos (by omega), w64 (by omega) (by omega), cast1, ih (i + 1) k _ (by omega) (by simp; omega) (by omega), hd]
    simp [toR]
theorem Of_ok (l : List CS) (h : ∀ x ∈ l, W32 x) (hl : l.length ≤ 1000000) (k : Nat) (hk : l.length < k) : prolepsislaw06_Of.f k l = some (l.map toR) := by
  unfold prolepsislaw06_Of.f
  have := Of_l l h hl l.length 0 k [] (by omega) rfl hk
  simpa using this
theorem r4_ok (a b c : Int) : prolepsisref04_Right.f a b c = some (penR a b c) := by
  unfold prolepsisref04_Right.f penR
  by_cases h1 : a ≤ 31 <;> by_cases h2 : b ≤ 16 <;> by_cases h3 : c ≤ 16 <;> simp [h1, h2, h3] <;> omega
def restC (c0 c1 c2 c3 : Int) : Bool := if c3 = 0 then (c0 == 0 && (c1 == 0 && c2 == 0)) else ((wOf c0 == c3) && tailC c1 c2)
theorem rj_ok (b : Bool) (c0 c1 c2 c3 c4 c5 c6 : Int) (h8 : 0 ≤ c3 ∧ c3 ≤ 255) (k : Nat) (hk : 30 ≤ k) : prolepsisref05_Right.j0 k b c0 c1 c2 c3 c4 c5 c6 = some (!b && restC c0 c1 c2 c3) := by
  obtain ⟨k, rfl⟩ : ∃ m, k = m + 1 := ⟨k - 1, by omega⟩
  rw [prolepsisref05_Right.j0, w64 (by omega) (by omega), rOf c0 k (by omega), rOf c1 k (by omega), rOf c2 k (by omega)]
  simp only [Option.bind_some]
  unfold restC tailC
  cases b
  · by_cases h3 : c3 = 0
    · by_cases a0 : c0 = 0 <;> by_cases a1 : c1 = 0 <;> simp [h3, a0, a1]
    · by_cases a : wOf c0 = c3
      · by_cases a1 : c1 = 0 <;> by_cases a2 : c2 = 0 <;> by_cases b1 : wOf c1 = 0 <;> simp [h3, a, a1, a2, b1]
      · simp [h3, a]
  · simp
theorem rRight_ok (c0 c1 c2 c3 c4 c5 c6 : Int) (h8 : 0 ≤ c3 ∧ c3 ≤ 255) (k : Nat) (hk : 30 ≤ k) : prolepsisref05_Right.f k c0 c1 c2 c3 c4 c5 c6 = some (rightC c0 c1 c2 c3 c4 c5 c6) := by
  unfold prolepsisref05_Right.f rightC
  rw [r4_ok]
  simp only [Option.bind_some, rj_ok _ _ _ _ _ _ _ _ h8 k hk, restC]
  cases penR c4 c5 c6
  · simp
  · by_cases h3 : c3 = 0
    · simp [h3]
    · by_cases h2 : c3 ≤ 2
      · simp [h3, h2, show ¬ 2 < c3 by omega]
      · simp [h3, h2, show 2 < c3 by omega]
theorem hasW_at (l : List CS) (i : Nat) (v : Int) (h : i < l.length) : hasW l i v = decide ((rd_T26 l (i : Int)).f2 = v) := by
  unfold hasW
  rw [rd_get l i h]
theorem hasW_out (l : List CS) (i : Nat) (v : Int) (h : l.length ≤ i) : hasW l i v = false := by
  unfold hasW
  rw [List.getElem?_eq_none h]
theorem ralone_ok (l : List CS) (i : Nat) (h : i < l.length) (hl : l.length ≤ 1000000) : prolepsisref06_alone.f (l.map toR) (i : Int) = some (aloneN l i) := by
  unfold prolepsisref06_alone.f aloneN
  rw [if_pos (by omega), List.length_map, if_pos (by omega), rd_R l i h, hasW_at l i 2 h, hasW_at l i 0 h, w64 (x := (i : Int) + 1) (by omega) (by omega), w64 (x := (i : Int) - 1) (by omega) (by omega), cast1]
  show (if (rd_T26 l (i : Int)).f2 = 2 then _ else if (rd_T26 l (i : Int)).f2 = 0 then _ else _) = _
  by_cases h2 : (rd_T26 l (i : Int)).f2 = 2
  · rw [if_pos h2, h2]
    by_cases h3 : i + 1 < l.length
    · rw [if_neg (by omega), if_pos (by omega), if_pos (by omega), rd_R l (i + 1) h3, hasW_at l (i + 1) 0 h3]
      show some ((rd_T26 l ((i + 1 : Nat) : Int)).f2 != 0) = _
      generalize rd_T26 l ((i + 1 : Nat) : Int) = y
      by_cases h4 : y.f2 = 0 <;> simp [h4]
    · rw [if_pos (by omega), hasW_out l (i + 1) 0 (by omega)]
      simp
  · rw [if_neg h2]
    by_cases h0 : (rd_T26 l (i : Int)).f2 = 0
    · rw [if_pos h0, h0]
      by_cases h3 : i = 0
      · subst h3; simp
      · rw [if_neg (by omega), if_pos (by omega), if_pos (by omega), show (i : Int) - 1 = ((i - 1 : Nat) : Int) by omega, rd_R l (i - 1) (by omega), hasW_at l (i - 1) 2 (by omega)]
        show some ((rd_T26 l ((i - 1 : Nat) : Int)).f2 != 2) = _
        generalize rd_T26 l ((i - 1 : Nat) : Int) = y
        have : 0 < i := by omega
        by_cases h4 : y.f2 = 2 <;> simp [h4, this]
    · rw [if_neg h0]
      simp [h0, h2]
theorem beq_flip (a b : Int) : (a == b) = decide (b = a) := by
  rw [Bool.eq_iff_iff]; simp only [beq_iff_eq, decide_eq_true_eq]; exact ⟨Eq.symm, Eq.symm⟩
theorem rRightL_l (l : List CS) (h8 : ∀ x ∈ l, W32 x) (hl : l.length ≤ 1000000) : ∀ (d i k : Nat), i + d = l.length → 2 * d + 40 < k → prolepsisref06_Right.l0 k (l.map toR) (i : Int) = some (rightFrom l d i) := by
  intro d
  induction d with
  | zero =>
    intro i k hi hk
    obtain ⟨k, rfl⟩ := kp hk
    rw [prolepsisref06_Right.l0, List.length_map, if_neg (by omega)]
    rfl
  | succ d ih =>
    intro i k hi hk
    obtain ⟨k, rfl⟩ : ∃ m, k = m + 2 := ⟨k - 2, by omega⟩
    have hil : i < l.length := by omega
    have hg := rd_get l i hil
    have hx := (h8 _ (rd_mem l i hil)).2.2.2
    have hR := rd_R l i hil
    rw [prolepsisref06_Right.l0, List.length_map, if_pos (by omega), if_pos (by omega), hR, rightFrom]
    unfold okR
    rw [hg]
    dsimp only
    generalize hX : rd_T26 l (i : Int) = x at *
    show (prolepsisref05_Right.f (k + 1) x.f0 x.f1.f0 x.f1.f1 x.f2 x.f3.f0 x.f3.f1 x.f3.f2).bind _ = _
    rw [rRight_ok _ _ _ _ _ _ _ hx _ (by omega)]
    simp only [Option.bind_some]
    have hr : rightC x.f0 x.f1.f0 x.f1.f1 x.f2 x.f3.f0 x.f3.f1 x.f3.f2 = rightS x := rfl
    rw [hr]
    cases hR' : rightS x
    · rw [if_neg (by simp), prolepsisref06_Right.j1, if_pos rfl]; simp
    · rw [if_pos rfl, ralone_ok l i hil hl]
      simp only [Option.bind_some]
      rw [prolepsisref06_Right.j1, List.length_map, hR]
      cases hA : aloneN l i
      · rw [if_neg (by simp), if_pos (by omega), if_pos (by omega), w64 (x := (i : Int) + 1) (by omega) (by omega), w64 (x := (i : Int) - 1) (by omega) (by omega), cast1, ih (i + 1) k (by omega) (by omega)]
        show (if x.f2 = 0 then _ else _) = _
        by_cases h0 : x.f2 = 0
        · have hi0 : 0 < i := by
            by_cases e : 0 < i
            · exact e
            · obtain rfl : i = 0 := by omega
              unfold aloneN at hA
              have : hasW l 0 0 = true := by unfold hasW; rw [hg]; simp [h0]
              rw [this] at hA
              simp at hA
          rw [if_pos h0, if_pos (by omega), if_pos (by omega)]
          have hg1 := rd_get l (i - 1) (by omega)
          rw [hg1, show (i : Int) - 1 = ((i - 1 : Nat) : Int) by omega, rd_R l (i - 1) (by omega)]
          generalize rd_T26 l ((i - 1 : Nat) : Int) = y
          unfold penEq toR
          dsimp only
          have c0 : (x.f3.f0 == y.f3.f0) = decide (y.f3.f0 = x.f3.f0) := beq_flip _ _
          have c1 : (x.f3.f1 == y.f3.f1) = decide (y.f3.f1 = x.f3.f1) := beq_flip _ _
          have c2 : (x.f3.f2 == y.f3.f2) = decide (y.f3.f2 = x.f3.f2) := beq_flip _ _
          rw [c0, c1, c2]
          by_cases e0 : y.f3.f0 = x.f3.f0 <;> by_cases e1 : y.f3.f1 = x.f3.f1 <;> by_cases e2 : y.f3.f2 = x.f3.f2 <;> simp [e0, e1, e2, h0]
        · rw [if_neg h0]
          simp [h0]
      · rw [if_pos rfl]; simp
theorem rRightL_ok (l : List CS) (h8 : ∀ x ∈ l, W32 x) (hl : l.length ≤ 1000000) (k : Nat) (hk : 2 * l.length + 40 < k) : prolepsisref06_Right.f k (l.map toR) = some (rightL l) := by
  unfold prolepsisref06_Right.f rightL
  exact rRightL_l l h8 hl l.length 0 k (by omega) hk
theorem drop_cs (l : List CS) (i : Nat) (h : i < l.length) : l.drop i = rd_T26 l (i : Int) :: l.drop (i + 1) := by
  rw [List.drop_eq_getElem_cons h]
  congr 1
  have := rd_get l i h
  rw [List.getElem?_eq_getElem h] at this
  exact Option.some.inj this
theorem rSame_l (a : List CS) (hl : a.length ≤ 1000000) (b : List CS) (hb : b.length = a.length) : ∀ (d i k : Nat), i + d = a.length → d < k → prolepsisref06_Same.l0 k (a.map toR) (b.map toR) (i : Int) = some (decide (a.drop i = b.drop i)) := by
  intro d
  induction d with
  | zero =>
    intro i k hi hk
    obtain ⟨k, rfl⟩ := kp hk
    rw [prolepsisref06_Same.l0, List.length_map, if_neg (by omega), List.drop_eq_nil_of_le (by omega), List.drop_eq_nil_of_le (by omega)]
    simp
  | succ d ih =>
    intro i k hi hk
    obtain ⟨k, rfl⟩ := kp hk
    rw [prolepsisref06_Same.l0, List.length_map, List.length_map, if_pos (by omega), if_pos (by omega), if_pos (by omega), rd_R a i (by omega), rd_R b i (by omega), drop_cs a i (by omega), drop_cs b i (by omega)]
    generalize rd_T26 a (i : Int) = x
    generalize rd_T26 b (i : Int) = y
    by_cases e : x = y
    · subst e
      rw [if_neg (by simp), w64 (by omega) (by omega), cast1, ih (i + 1) k (by omega) (by omega)]
      simp
    · rw [if_pos]
      · simp [e]
      · dsimp only [toR]
        by_cases h0 : x.f0 = y.f0 <;> by_cases h1 : x.f1.f0 = y.f1.f0 <;> by_cases h2 : x.f1.f1 = y.f1.f1 <;> by_cases h3 : x.f2 = y.f2 <;> by_cases h4 : x.f3.f0 = y.f3.f0 <;> by_cases h5 : x.f3.f1 = y.f3.f1 <;> by_cases h6 : x.f3.f2 = y.f3.f2 <;> first | exact absurd (CS_ext h0 h1 h2 h3 h4 h5 h6) e | simp [*]
theorem rSame_ok (a b : List CS) (hl : a.length ≤ 1000000) (k : Nat) (hk : a.length < k) : prolepsisref06_Same.f k (a.map toR) (b.map toR) = some (decide (a = b)) := by
  unfold prolepsisref06_Same.f
  rw [List.length_map, List.length_map]
  by_cases h : (a.length : Int) = (b.length : Int)
  · rw [if_pos h]
    have := rSame_l a hl b (by omega) a.length 0 k (by omega) hk
    simp only [List.drop_zero] at this
    rw [show ((0 : Int)) = ((0 : Nat) : Int) by rfl, this]
  · rw [if_neg h]
    have : a ≠ b := fun e => h (by rw [e])
    simp [this]
/-- How far a line is used, of its first n. -/
def usedN (l : List CS) : Nat → Nat
  | 0 => 0
  | n + 1 => if rd_T26 l (n : Int) = blankP 0 0 0 then usedN l n else n + 1
theorem usedN_le (l : List CS) : ∀ n, usedN l n ≤ n
  | 0 => Nat.le_refl _
  | n + 1 => by
    unfold usedN
    have := usedN_le l n
    split <;> omega
theorem blank_iff (x : CS) : (x.f0 == 32 && ((x.f1.f0 == 0 && (x.f1.f1 == 0)) && (x.f2 == 1 && ((x.f3.f0 == 0 && (x.f3.f1 == 0 && (x.f3.f2 == 0))))))) = decide (x = blankP 0 0 0) := by
  rw [Bool.eq_iff_iff]
  simp only [Bool.and_eq_true, beq_iff_eq, decide_eq_true_eq]
  constructor
  · rintro ⟨h0, ⟨h1, h2⟩, h3, h4, h5, h6⟩
    exact CS_ext h0 h1 h2 h3 h4 h5 h6
  · rintro rfl
    simp [blankP]
theorem Used_l (l : List CS) (hl : l.length ≤ 1000000) : ∀ (n k : Nat), n ≤ l.length → n < k → line_Used.l0 k l (n : Int) = some ((usedN l n : Nat) : Int) := by
  intro n
  induction n with
  | zero =>
    intro k hn hk
    obtain ⟨k, rfl⟩ := kp hk
    rw [line_Used.l0, if_neg (by simp)]
    rfl
  | succ n ih =>
    intro k hn hk
    obtain ⟨k, rfl⟩ := kp hk
    rw [line_Used.l0, if_pos (by omega), w64 (by omega) (by omega), show ((n + 1 : Nat) : Int) - 1 = (n : Int) by omega, if_pos (by omega), if_pos (by omega)]
    simp only [cell_Blank.f, Option.bind_some]
    rw [blank_iff, usedN]
    by_cases h : rd_T26 l (n : Int) = blankP 0 0 0
    · rw [if_pos (by simpa using h), if_pos h, ih k (by omega) (by omega)]
    · rw [if_neg (by simpa using h), if_neg h]
theorem Used_ok (l : List CS) (hl : l.length ≤ 1000000) (k : Nat) (hk : l.length < k) : line_Used.f k l = some ((usedN l l.length : Nat) : Int) := Used_l l hl l.length k (Nat.le_refl _) hk
theorem rUsed_l (l : List CS) (hl : l.length ≤ 1000000) : ∀ (d i k : Nat), i + d = l.length → d < k → prolepsisref06_Used.l0 k (l.map toR) ((usedN l i : Nat) : Int) (i : Int) = some ((usedN l l.length : Nat) : Int) := by
  intro d
  induction d with
  | zero =>
    intro i k hi hk
    obtain ⟨k, rfl⟩ := kp hk
    rw [prolepsisref06_Used.l0, List.length_map, if_neg (by omega), show i = l.length by omega]
  | succ d ih =>
    intro i k hi hk
    obtain ⟨k, rfl⟩ := kp hk
    rw [prolepsisref06_Used.l0, List.length_map, if_pos (by omega), if_pos (by omega), rd_R l i (by omega)]
    simp only [prolepsisref05_Blank.f, Option.bind_some]
    have := ih (i + 1) k (by omega) (by omega)
    rw [w64 (by omega) (by omega), cast1]
    rw [usedN] at this
    generalize rd_T26 l (i : Int) = x at *
    have hb := blank_iff x
    have hq : (!((toR x).f0 == 32) || ((!((toR x).f1.f0 == 0) || (!((toR x).f1.f1 == 0))) || (!((toR x).f2 == 1) || ((!((toR x).f3.f0 == 0) || (!((toR x).f3.f1 == 0) || (!((toR x).f3.f2 == 0)))))))) = !decide (x = blankP 0 0 0) := by
      rw [← hb]; simp [toR, Bool.not_and]
    rw [hq]
    by_cases h : x = blankP 0 0 0
    · rw [if_neg (by simp [h])]; rw [if_pos h] at this; exact this
    · rw [if_pos (by simp [h])]; rw [if_neg h] at this; exact this
theorem rUsed_ok (l : List CS) (hl : l.length ≤ 1000000) (k : Nat) (hk : l.length < k) : prolepsisref06_Used.f k (l.map toR) = some ((usedN l l.length : Nat) : Int) := rUsed_l l hl l.length 0 k (by omega) hk
theorem runes_len (c0 c1 c2 c3 : Int) : (runesC c0 c1 c2 c3).length ≤ 5 := by
  unfold runesC
  split
  · exact nzs_len c0 _ (by simp)
  · simp
/-- The bytes of a line's text. -/
def textL (l : List CS) : List Int := l.flatMap (fun x => (runesC x.f0 x.f1.f0 x.f1.f1 x.f2).flatMap (fun r => enc (mend r)))
theorem text1_len (x : CS) : ((runesC x.f0 x.f1.f0 x.f1.f1 x.f2).flatMap (fun r => enc (mend r))).length ≤ 20 := by
  have := runes_len x.f0 x.f1.f0 x.f1.f1 x.f2
  have h2 := encs_len ((runesC x.f0 x.f1.f0 x.f1.f1 x.f2).map mend)
  rw [← flat_map, List.length_map] at h2
  omega
theorem Text_l (l : List CS) (hl : l.length ≤ 1000000) : ∀ (d i k : Nat) (o : List Int), i + d = l.length → o.length ≤ 20 * i → d + 100 < k → line_Text.l0 k o l (l.length : Int) (i : Int) = some (strOfNums (o ++ textL (l.drop i))) := by
  intro d
  induction d with
  | zero =>
    intro i k o hi ho hk
    obtain ⟨k, rfl⟩ := kp hk
    rw [line_Text.l0, if_neg (by omega), List.drop_eq_nil_of_le (by omega)]
    simp [textL]
  | succ d ih =>
    intro i k o hi ho hk
    obtain ⟨k, rfl⟩ := kp hk
    have hr := runes_len (rd_T26 l (i : Int)).f0 (rd_T26 l (i : Int)).f1.f0 (rd_T26 l (i : Int)).f1.f1 (rd_T26 l (i : Int)).f2
    have ht := text1_len (rd_T26 l (i : Int))
    rw [line_Text.l0, if_pos (by omega), if_pos (by omega), if_pos (by omega)]
    simp only [cell_Runes.f, Option.bind_some]
    rw [uBytes_ok _ (by omega) k (by omega)]
    simp only [Option.bind_some]
    rw [if_pos (by omega), w64 (by omega) (by omega), cast1, ih (i + 1) k _ (by omega) (by rw [List.length_append]; omega) (by omega), drop_cs l i (by omega)]
    simp [textL]
theorem Text_ok (l : List CS) (hl : l.length ≤ 1000000) (k : Nat) (hk : l.length + 100 < k) : line_Text.f k l = some (strOfNums (textL l)) := by
  unfold line_Text.f
  have := Text_l l hl l.length 0 k [] (by omega) (by simp) hk
  simpa using this
theorem rText_l (l : List CS) (hl : l.length ≤ 1000000) : ∀ (d i k : Nat) (o : List Int), i + d = l.length → o.length ≤ 20 * i → d + 100 < k → prolepsisref06_Text.l0 k (l.map toR) o (i : Int) = some (strOfNums (o ++ textL (l.drop i))) := by
  intro d
  induction d with
  | zero =>
    intro i k o hi ho hk
    obtain ⟨k, rfl⟩ := kp hk
    rw [prolepsisref06_Text.l0, List.length_map, if_neg (by omega), List.drop_eq_nil_of_le (by omega)]
    simp [textL]
  | succ d ih =>
    intro i k o hi ho hk
    obtain ⟨k, rfl⟩ := kp hk
    have hr := runes_len (rd_T26 l (i : Int)).f0 (rd_T26 l (i : Int)).f1.f0 (rd_T26 l (i : Int)).f1.f1 (rd_T26 l (i : Int)).f2
    have ht := text1_len (rd_T26 l (i : Int))
    rw [prolepsisref06_Text.l0, List.length_map, if_pos (by omega), if_pos (by omega), rd_R l i (by omega)]
    simp only [prolepsisref05_Runes.f, Option.bind_some, toR]
    rw [rAll_ok _ (by omega) k (by omega)]
    simp only [Option.bind_some]
    rw [if_pos (by omega), w64 (by omega) (by omega), cast1, ih (i + 1) k _ (by omega) (by rw [List.length_append]; omega) (by omega), drop_cs l i (by omega)]
    simp [textL]
theorem rText_ok (l : List CS) (hl : l.length ≤ 1000000) (k : Nat) (hk : l.length + 100 < k) : prolepsisref06_Text.f k (l.map toR) = some (strOfNums (textL l)) := by
  unfold prolepsisref06_Text.f
  have := rText_l l hl l.length 0 k [] (by omega) (by simp) hk
  simpa using this
theorem LineAsks_true (l0 l1 : List CS) (h0 : ∀ x ∈ l0, W32 x) (h1 : ∀ x ∈ l1, W32 x) : prolepsislaw06_LineAsks.f 1000 l0 l1 = some true := by
  unfold prolepsislaw06_LineAsks.f
  rw [Cut_ok l0, Cut_ok l1]
  simp only [Option.bind_some]
  have hL : (l0.take 30).length ≤ 30 := by rw [List.length_take]; omega
  have hM : (l1.take 30).length ≤ 30 := by rw [List.length_take]; omega
  have h0L : ∀ x ∈ l0.take 30, W32 x := fun x hx => h0 x (List.mem_of_mem_take hx)
  have h1L : ∀ x ∈ l1.take 30, W32 x := fun x hx => h1 x (List.mem_of_mem_take hx)
  generalize l0.take 30 = a at hL h0L
  generalize l1.take 30 = b at hM h1L
  rw [show prolepsislaw06_known.f = some true from rfl, Of_ok a h0L (by omega) 1000 (by omega), Of_ok b h1L (by omega) 1000 (by omega), Right_ok a (fun x hx => (h0L x hx).2.2.2) (by omega) 1000 (by omega), Same_ok a b (by omega) 1000 (by omega), Used_ok a (by omega) 1000 (by omega), Text_ok a (by omega) 1000 (by omega)]
  simp only [Option.bind_some, if_true]
  rw [rRightL_ok a h0L (by omega) 1000 (by omega), rSame_ok a b (by omega) 1000 (by omega), rUsed_ok a (by omega) 1000 (by omega), rText_ok a (by omega) 1000 (by omega)]
  simp
end Go.Proofs.Ytblcmcdifgclcaa.Pure
