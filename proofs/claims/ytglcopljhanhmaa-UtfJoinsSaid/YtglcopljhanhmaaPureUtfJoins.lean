/- What the law UtfJoins reaches answers true. -/
import Derived.Test.YtglcopljhanhmaaPUtfJoinsL
import Derived.Test.YtglcopljhanhmaaUtfB
import Derived.Test.YtglcopljhanhmaaUtfI
import Derived.OpenShut
namespace Go.Proofs.Ytglcopljhanhmaa.Pure
open Go.RowKit Go.Proofs.Ytglcopljhanhmaa.PUtfJoins Go.Proofs.YtglcopljhanhmaaW.PrintWords Go.Proofs.YtglcopljhanhmaaW.PrintLast Go.Proofs.YtglcopljhanhmaaW.PrintMore
set_option linter.unusedVariables false
set_option linter.unusedSimpArgs false
/-- What is no scalar is told as Broken. -/
def mend (r : Int) : Int := if scalarZ r = true then r else 65533
theorem mend_scalar (r : Int) : scalarZ (mend r) = true := by unfold mend; split <;> simp_all; decide
theorem scalar_mend {r : Int} (h : scalarZ r = true) : mend r = r := by unfold mend; rw [if_pos h]
theorem parse_more (l : List Int) (h : (parseZ l).2.2 = true) : parseZ l = (0, 0, true) := by
  match l with
  | [] => rfl
  | a :: t =>
    simp only [parseZ] at h ⊢
    by_cases h1 : a < 128
    · rw [if_pos h1] at h; simp at h
    rw [if_neg h1] at h ⊢
    by_cases h2 : a < 194 ∨ 244 < a
    · rw [if_pos h2] at h; simp at h
    rw [if_neg h2] at h ⊢
    match t with
    | [] => rfl
    | b :: t =>
      dsimp only at h ⊢
      by_cases h3 : two a b = false
      · rw [if_pos h3] at h; simp at h
      rw [if_neg h3] at h ⊢
      by_cases h4 : a < 224
      · rw [if_pos h4] at h; simp at h
      rw [if_neg h4] at h ⊢
      match t with
      | [] => rfl
      | c :: t =>
        dsimp only at h ⊢
        by_cases h5 : cont c = false
        · rw [if_pos h5] at h; simp at h
        rw [if_neg h5] at h ⊢
        by_cases h6 : a < 240
        · rw [if_pos h6] at h; simp at h
        rw [if_neg h6] at h ⊢
        match t with
        | [] => rfl
        | d :: t =>
          dsimp only at h ⊢
          by_cases h7 : cont d = false
          · rw [if_pos h7] at h; simp at h
          rw [if_neg h7] at h; simp at h
theorem pre3 (l : List Int) : [239, 191, 189] <+: l ↔ 3 ≤ l.length ∧ rd l 0 = 239 ∧ rd l 1 = 191 ∧ rd l 2 = 189 := by
  match l with
  | [] => simp
  | [a] => simp [List.cons_prefix_cons]
  | [a, b] => simp [List.cons_prefix_cons]
  | a :: b :: c :: t =>
    rw [List.cons_prefix_cons, List.cons_prefix_cons, List.cons_prefix_cons]
    simp [rd]
    omega
theorem broken_len (l : List Int) (h : [239, 191, 189] <+: l) : parseZ l = (65533, 3, false) := by
  obtain ⟨t, rfl⟩ := h
  rfl
theorem uValid_l : ∀ (n : Nat) (l : List Int) (k : Nat), l.length ≤ n → In8u l → n ≤ 1000000 → n + 12 < k → utf_Valid.l0 k l = some (validN n l) := by
  intro n
  induction n with
  | zero =>
    intro l k hl h8 ho hk
    obtain ⟨k, rfl⟩ : ∃ m, k = m + 1 := ⟨k - 1, by omega⟩
    rw [List.eq_nil_of_length_eq_zero (Nat.le_zero.1 hl), utf_Valid.l0, if_neg (by simp)]
    rfl
  | succ n ih =>
    intro l k hl h8 ho hk
    obtain ⟨k, rfl⟩ : ∃ m, k = m + 1 := ⟨k - 1, by omega⟩
    match l with
    | [] => rw [utf_Valid.l0, if_neg (by simp)]; rfl
    | a :: t =>
      rw [utf_Valid.l0, if_pos (by simp only [List.length_cons]; omega), p_parse (a :: t) h8 (by simp) k (by omega), validN]
      · simp only [Option.bind_some]
        by_cases hb : (parseZ (a :: t)).2.2 = true
        · rw [if_pos hb, if_pos hb]
        · have hp := parseZ_pos a t (Bool.eq_false_iff.2 hb)
          have hi := ih ((a :: t).drop (parseZ (a :: t)).2.1.toNat) k (by rw [List.length_drop]; omega) (fun x hx => h8 x (List.mem_of_mem_drop hx)) (by omega) (by omega)
          rw [if_neg hb, if_neg hb]
          by_cases hr : (parseZ (a :: t)).1 = 65533
          · rw [if_pos hr]
            by_cases h3 : [239, 191, 189] <+: a :: t
            · have hq := broken_len _ h3
              rw [pre3] at h3
              rw [hq] at hi hp ⊢
              rw [if_pos rfl, if_pos (by omega), if_pos h3.2.1, if_pos (by omega), if_pos h3.2.2.1, if_pos (by omega), if_pos h3.2.2.2, if_pos (by dsimp only; omega), if_pos (by dsimp only; omega), hi, if_neg (fun hh => hh.2 ((pre3 (a :: t)).2 h3))]
            · rw [if_pos (show (parseZ (a :: t)).1 = 65533 ∧ ¬ [239, 191, 189] <+: a :: t from ⟨hr, h3⟩)]
              by_cases c3 : (parseZ (a :: t)).2.1 = 3
              · rw [if_pos c3, if_pos (by omega)]
                by_cases d0 : rd (a :: t) 0 = 239
                · rw [if_pos d0, if_pos (by omega)]
                  by_cases d1 : rd (a :: t) 1 = 191
                  · rw [if_pos d1, if_pos (by omega)]
                    by_cases d2 : rd (a :: t) 2 = 189
                    · exact absurd ((pre3 _).2 ⟨by omega, d0, d1, d2⟩) h3
                    · rw [if_neg d2]
                  · rw [if_neg d1]
                · rw [if_neg d0]
              · rw [if_neg c3]
          · rw [if_neg hr, if_pos (by omega), if_pos (by omega), if_neg (by simp [hr]), hi]
      · simp
theorem uValid_ok (l : List Int) (h8 : In8u l) (hl : l.length ≤ 1000000) (k : Nat) (hk : l.length + 12 < k) : utf_Valid.f k l = some (decide ((runesZ l).flatMap enc = l)) := by
  unfold utf_Valid.f
  rw [uValid_l l.length l k (Nat.le_refl _) h8 hl hk, valid_iff l.length l (Nat.le_refl _) h8]
theorem flat_len (l : List Int) : (l.flatMap enc).length ≤ 4 * l.length := by
  induction l with
  | nil => simp
  | cons a t ih => rw [List.flatMap_cons, List.length_append, List.length_cons]; have := enc_len a; omega
theorem flat_in8 {l : List Int} (h : ∀ x ∈ l, scalarZ x = true) : In8u (l.flatMap enc) := by
  intro x hx
  obtain ⟨a, ha, hx⟩ := List.mem_flatMap.1 hx
  exact enc_in8 (h a ha) x hx
theorem mn_len {n : Nat} {c : Int} (hc : 0 ≤ c) : 0 ≤ mn (n : Int) c ∧ mn (n : Int) c ≤ n ∧ mn (n : Int) c ≤ c := by unfold mn; split <;> omega
theorem in32 {x : Int} (h : (Lit.int .i32 x).wf = true) : -2147483648 ≤ x ∧ x ≤ 2147483647 := by have := bounds_i32 h; omega
theorem in8 {x : Int} (h : (Lit.int .u8 x).wf = true) : 0 ≤ x ∧ x ≤ 255 := by have := bounds_u8 h; omega
theorem or128f : ∀ x : Fin 256, Go.bits .or .u8 128 (Go.bits .and .u8 ((x.val : Nat) : Int) 63) = 128 + ((x.val % 64 : Nat) : Int) := by decide +kernel
theorem or240f : ∀ x : Fin 8, Go.bits .or .u8 240 ((x.val : Nat) : Int) = 240 + ((x.val : Nat) : Int) := by decide +kernel
theorem or224f : ∀ x : Fin 16, Go.bits .or .u8 224 ((x.val : Nat) : Int) = 224 + ((x.val : Nat) : Int) := by decide +kernel
theorem or192f : ∀ x : Fin 32, Go.bits .or .u8 192 ((x.val : Nat) : Int) = 192 + ((x.val : Nat) : Int) := by decide +kernel
theorem or0f : ∀ x : Fin 128, Go.bits .or .u8 0 ((x.val : Nat) : Int) = ((x.val : Nat) : Int) := by decide +kernel
theorem or128m (y : Int) : Go.bits .or .u8 128 (Go.bits .and .u8 (y % 256) 63) = 128 + y % 64 := by
  have := or128f ⟨(y % 256).toNat, by omega⟩
  simp only at this
  rw [show (((y % 256).toNat : Nat) : Int) = y % 256 by omega] at this
  rw [this]; omega
theorem or240 {y : Int} (h : 0 ≤ y ∧ y < 8) : Go.bits .or .u8 240 (y % 256) = 240 + y := by
  have := or240f ⟨y.toNat, by omega⟩
  simp only at this
  rw [show ((y.toNat : Nat) : Int) = y by omega] at this
  rw [show y % 256 = y by omega, this]
theorem or224 {y : Int} (h : 0 ≤ y ∧ y < 16) : Go.bits .or .u8 224 (y % 256) = 224 + y := by
  have := or224f ⟨y.toNat, by omega⟩
  simp only at this
  rw [show ((y.toNat : Nat) : Int) = y by omega] at this
  rw [show y % 256 = y by omega, this]
theorem or192 {y : Int} (h : 0 ≤ y ∧ y < 32) : Go.bits .or .u8 192 (y % 256) = 192 + y := by
  have := or192f ⟨y.toNat, by omega⟩
  simp only at this
  rw [show ((y.toNat : Nat) : Int) = y by omega] at this
  rw [show y % 256 = y by omega, this]
theorem or0 {y : Int} (h : 0 ≤ y ∧ y < 128) : Go.bits .or .u8 0 (y % 256) = y := by
  have := or0f ⟨y.toNat, by omega⟩
  simp only at this
  rw [show ((y.toNat : Nat) : Int) = y by omega] at this
  rw [show y % 256 = y by omega, this]
theorem shr18 (x : Int) : shr .i32 x 18 = x / 262144 := by unfold shr; rfl
theorem shr12 (x : Int) : shr .i32 x 12 = x / 4096 := by unfold shr; rfl
theorem shr6 (x : Int) : shr .i32 x 6 = x / 64 := by unfold shr; rfl
theorem shr0 (x : Int) : shr .i32 x 0 = x := by unfold shr; show x / 1 = x; omega
theorem uScalar (r : Int) : utf_Scalar.f r = some (scalarZ r) := by
  unfold utf_Scalar.f scalarZ
  by_cases a : 0 ≤ r <;> by_cases b : r ≤ 1114111 <;> by_cases c : r < 55296 <;> by_cases d : 57343 < r <;> simp [*] <;> omega
theorem uBytes_j1 (l : List Int) (n i : Int) (out : List Int) (x : Int) (h0 : 0 ≤ x) (h1 : x ≤ 1114111) (ho : out.length ≤ 1000000) (k : Nat) : utf_Bytes.j1 (k + 6) out x l n i = utf_Bytes.l0 (k + if x < 128 then 3 else if x < 2048 then 2 else if x < 65536 then 1 else 0) (out ++ enc x) l n (wrap64 (i + 1)) := by
  rw [utf_Bytes.j1]
  by_cases a : x < 128
  · rw [if_neg (by omega), if_neg (by omega), if_neg (by omega), utf_Bytes.j2, if_pos (by omega), if_pos (by omega), shr0, or0 (by omega), utf_Bytes.l1, if_neg (by omega), enc1 a, if_pos a]
  · by_cases b : x < 2048
    · rw [if_neg (by omega), if_neg (by omega), if_pos (by omega), utf_Bytes.j2, if_pos (by omega), if_pos (by omega), shr6, or192 (by omega), utf_Bytes.l1, if_pos (by omega), show wrap64 (6 - 6) = 0 by rw [w64 (by omega) (by omega)]; rfl, if_pos (by omega), if_pos (by simp; omega), shr0, or128m, utf_Bytes.l1, if_neg (by omega), enc2 (by omega) b, if_neg a, if_pos b]
      simp
    · by_cases c : x < 65536
      · rw [if_neg (by omega), if_pos (by omega), utf_Bytes.j2, if_pos (by omega), if_pos (by omega), shr12, or224 (by omega), utf_Bytes.l1, if_pos (by omega), show wrap64 (12 - 6) = 6 by rw [w64 (by omega) (by omega)]; rfl, if_pos (by omega), if_pos (by simp; omega), shr6, or128m,
          utf_Bytes.l1, if_pos (by omega), show wrap64 (6 - 6) = 0 by rw [w64 (by omega) (by omega)]; rfl, if_pos (by omega), if_pos (by simp; omega), shr0, or128m, utf_Bytes.l1, if_neg (by omega), enc3 (by omega) c, if_neg a, if_neg b, if_pos c]
        simp
      · rw [if_pos (by omega), utf_Bytes.j2, if_pos (by omega), if_pos (by omega), shr18, or240 (by omega), utf_Bytes.l1, if_pos (by omega), show wrap64 (18 - 6) = 12 by rw [w64 (by omega) (by omega)]; rfl, if_pos (by omega), if_pos (by simp; omega), shr12, or128m,
          utf_Bytes.l1, if_pos (by omega), show wrap64 (12 - 6) = 6 by rw [w64 (by omega) (by omega)]; rfl, if_pos (by omega), if_pos (by simp; omega), shr6, or128m,
          utf_Bytes.l1, if_pos (by omega), show wrap64 (6 - 6) = 0 by rw [w64 (by omega) (by omega)]; rfl, if_pos (by omega), if_pos (by simp; omega), shr0, or128m, utf_Bytes.l1, if_neg (by omega), enc4 (by omega), if_neg a, if_neg b, if_neg c]
        simp
theorem uBytes_l (l : List Int) (hl : l.length ≤ 100000) : ∀ (d i k : Nat) (out : List Int), i + d = l.length → out.length ≤ 4 * i → 7 * d + 2 ≤ k → utf_Bytes.l0 k out l (l.length : Int) (i : Int) = some (out ++ (l.drop i).flatMap (fun r => enc (mend r))) := by
  intro d
  induction d with
  | zero =>
    intro i k out hi ho hk
    obtain ⟨k, rfl⟩ : ∃ m, k = m + 1 := ⟨k - 1, by omega⟩
    rw [utf_Bytes.l0, if_neg (by omega), List.drop_eq_nil_of_le (by omega)]
    simp
  | succ d ih =>
    intro i k out hi ho hk
    obtain ⟨k, rfl⟩ : ∃ m, k = m + 7 := ⟨k - 7, by omega⟩
    have he := enc_len (mend (rd l (i : Int)))
    have hm := (scalar_iff _).1 (mend_scalar (rd l (i : Int)))
    have hb := uBytes_j1 l (l.length : Int) (i : Int) out (mend (rd l (i : Int))) (by omega) (by omega) (by omega) k
    have hif : (if mend (rd l (i : Int)) < 128 then 3 else if mend (rd l (i : Int)) < 2048 then 2 else if mend (rd l (i : Int)) < 65536 then 1 else 0) ≥ (0 : Nat) := Nat.zero_le _
    rw [w64 (by omega) (by omega), cast1, ih (i + 1) _ _ (by omega) (by rw [List.length_append]; omega) (by omega)] at hb
    rw [utf_Bytes.l0, if_pos (by omega), if_pos (by omega), if_pos (by omega), uScalar]
    simp only [Option.bind_some]
    have hs : (if scalarZ (rd l (i : Int)) = true then utf_Bytes.j1 (k + 6) out (rd l (i : Int)) l (l.length : Int) (i : Int) else utf_Bytes.j1 (k + 6) out 65533 l (l.length : Int) (i : Int)) = utf_Bytes.j1 (k + 6) out (mend (rd l (i : Int))) l (l.length : Int) (i : Int) := by
      unfold mend; split <;> rfl
    rw [hs, hb, drop_rd (show i < l.length by omega), List.flatMap_cons, List.append_assoc]
theorem uBytes_ok (l : List Int) (hl : l.length ≤ 100000) (k : Nat) (hk : 7 * l.length + 2 ≤ k) : utf_Bytes.f k l = some (l.flatMap (fun r => enc (mend r))) := by
  unfold utf_Bytes.f
  have := uBytes_l l hl l.length 0 k [] (by omega) (by simp) hk
  simpa using this
theorem flat_map (l : List Int) : l.flatMap (fun r => enc (mend r)) = (l.map mend).flatMap enc := by
  induction l with
  | nil => rfl
  | cons a t ih => rw [List.flatMap_cons, List.map_cons, List.flatMap_cons, ih]
theorem mends_scalar (l : List Int) : ∀ x ∈ l.map mend, scalarZ x = true := by
  intro x hx
  obtain ⟨a, -, rfl⟩ := List.mem_map.1 hx
  exact mend_scalar a
theorem mends_id {l : List Int} (h : ∀ x ∈ l, scalarZ x = true) : l.map mend = l := by
  induction l with
  | nil => rfl
  | cons a t ih => rw [List.map_cons, scalar_mend (h a (by simp)), ih (fun x hx => h x (by simp [hx]))]
theorem runes_mends (l : List Int) : runesZ ((l.map mend).flatMap enc) = l.map mend := by
  have := runes_flat (l.map mend) [] (mends_scalar l)
  rw [List.append_nil, runesZ_nil, List.append_nil] at this
  exact this
theorem valid_mends (l : List Int) (n : Nat) (h : ((l.map mend).flatMap enc).length ≤ n) : validN n ((l.map mend).flatMap enc) = true := by
  rw [valid_iff n _ h (flat_in8 (mends_scalar l)), runes_mends]
  simp
theorem Ints_l (l : List Int) (h32 : ∀ x ∈ l, -2147483648 ≤ x ∧ x ≤ 2147483647) (hl : l.length ≤ 1000000) : ∀ (d i k : Nat) (o : List Int), i + d = l.length → o.length + d ≤ 2000000 → d < k → prolepsislaw02_Ints.l0 k l o (i : Int) = some (o ++ l.drop i) := by
  intro d
  induction d with
  | zero =>
    intro i k o hi ho hk
    obtain ⟨k, rfl⟩ := kp hk
    rw [prolepsislaw02_Ints.l0, if_neg (by omega), List.drop_eq_nil_of_le (by omega)]
    simp
  | succ d ih =>
    intro i k o hi ho hk
    obtain ⟨k, rfl⟩ := kp hk
    have hx := h32 _ (rd_in (show i < l.length by omega))
    rw [prolepsislaw02_Ints.l0, if_pos (by omega), if_pos (by omega), if_pos (by omega), w64 (x := rd l (i : Int)) (by omega) (by omega), w64 (by omega) (by omega), cast1, ih (i + 1) k _ (by omega) (by simp; omega) (by omega), drop_rd (show i < l.length by omega)]
    simp
theorem Ints_ok (l : List Int) (h32 : ∀ x ∈ l, -2147483648 ≤ x ∧ x ≤ 2147483647) (hl : l.length ≤ 1000000) (k : Nat) (hk : l.length < k) : prolepsislaw02_Ints.f k l = some l := by
  unfold prolepsislaw02_Ints.f
  have := Ints_l l h32 hl l.length 0 k [] (by omega) (by simp; omega) hk
  simpa using this
theorem uRunes (l : List Int) (h8 : In8u l) (hl : l.length ≤ 1000000) : utf_Runes.f l = some (runesZ l) := by unfold utf_Runes.f; rw [if_pos ⟨all8.2 h8, hl⟩]
theorem UtfJoins : prolepsislaw02_UtfJoins.Pure := by
  intro l0 l1 hm hs hw hm1 hs1 hw1
  have h32 : ∀ x ∈ l0, -2147483648 ≤ x ∧ x ≤ 2147483647 := fun x hx => in32 (hw x hx)
  have h8 : In8u l1 := fun x hx => in8 (hw1 x hx)
  refine ⟨1000, ?_⟩
  have hn := mn_len (n := l0.length) (c := 20) (by omega)
  have hn1 := mn_len (n := l1.length) (c := 40) (by omega)
  unfold prolepsislaw02_UtfJoins.f
  rw [if_pos hn.1, if_pos hn.2.1, if_pos hn1.1, if_pos hn1.2.1]
  have hL : (l0.take (mn (l0.length : Int) 20).toNat).length ≤ 20 := by rw [List.length_take]; omega
  have hB : (l1.take (mn (l1.length : Int) 40).toNat).length ≤ 40 := by rw [List.length_take]; omega
  have h8B : In8u (l1.take (mn (l1.length : Int) 40).toNat) := fun x hx => h8 x (List.mem_of_mem_take hx)
  generalize l0.take (mn (l0.length : Int) 20).toNat = L at hL
  generalize l1.take (mn (l1.length : Int) 40).toNat = B at hB h8B
  have hfl := flat_len (L.map mend)
  rw [List.length_map] at hfl
  have h8F : In8u ((L.map mend).flatMap enc) := flat_in8 (mends_scalar L)
  have h8FB : In8u ((L.map mend).flatMap enc ++ B) := fun x hx => (List.mem_append.1 hx).elim (h8F x) (h8B x)
  have hlen : ((L.map mend).flatMap enc ++ B).length ≤ 120 := by rw [List.length_append]; omega
  have sc32 : ∀ l : List Int, (∀ x ∈ l, scalarZ x = true) → ∀ x ∈ l, -2147483648 ≤ x ∧ x ≤ 2147483647 := fun l h x hx => by have := (scalar_iff x).1 (h x hx); omega
  have hrB := sc32 _ (runes_scalar B.length B (Nat.le_refl _) h8B)
  have hrBl := runesZ_len B
  have hmL := sc32 _ (mends_scalar L)
  have hrj := runes_flat (L.map mend) B (mends_scalar L)
  have h32j : ∀ x ∈ L.map mend ++ runesZ B, -2147483648 ≤ x ∧ x ≤ 2147483647 := fun x hx => (List.mem_append.1 hx).elim (hmL x) (hrB x)
  have hjl : (L.map mend ++ runesZ B).length ≤ 60 := by rw [List.length_append, List.length_map]; omega
  rw [uBytes_ok L (by omega) 1000 (by omega), Option.bind_some, flat_map, uRunes _ h8F (by omega), Option.bind_some, runes_mends, Ints_ok (L.map mend) hmL (by rw [List.length_map]; omega) 1000 (by rw [List.length_map]; omega), Option.bind_some, uRunes B h8B (by omega), Option.bind_some,
    Ints_ok (runesZ B) hrB (by omega) 1000 (by omega), Option.bind_some, show prolepsislaw02_known.f = some true from rfl, Option.bind_some, if_pos rfl, if_pos (by rw [List.length_map])]
  simp only [Option.bind_some, List.nil_append]
  rw [if_pos (by rw [List.length_nil]; omega), if_pos (by omega), uRunes _ h8FB (by omega), hrj]
  simp only [Option.bind_some]
  rw [if_pos (by rw [List.length_nil, List.length_map]; omega), if_pos (by rw [List.length_map]; omega), Same_ok _ h32j (by omega) 1000 (by omega)]
  simp only [Option.bind_some]
  rw [if_pos trivial, if_pos (by rw [List.length_nil]; omega), if_pos (by omega), uValid_ok _ h8FB (by omega) 1000 (by omega), uValid_ok _ h8B (by omega) 1000 (by omega), hrj]
  simp only [Option.bind_some, List.flatMap_append, List.append_cancel_left_eq]
  simp
end Go.Proofs.Ytglcopljhanhmaa.Pure
