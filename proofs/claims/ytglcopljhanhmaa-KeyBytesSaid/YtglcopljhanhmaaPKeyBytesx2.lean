/- What the law KeyBytes reaches: each function with its contract. -/
import Derived.Test.YtglcopljhanhmaaPKeyBytesx1
import Derived.Test.YtglcopljhanhmaaPKeyBytesx0
namespace Go.Proofs.Ytglcopljhanhmaa.PKeyBytes
open Go.RowKit Go.Proofs.YtglcopljhanhmaaW.PrintWords Go.Proofs.YtglcopljhanhmaaW.PrintLast Go.Proofs.YtglcopljhanhmaaW.PrintMore
attribute [local go_sem] isSome_setCell max2_int min2_int max_two min_two max_three min_three max_four min_four   -- for this text's walks alone
set_option linter.unusedVariables false
set_option linter.unusedSimpArgs false

/-! ### utf_Scalar: function 29 -/
def utf_Scalar.f (a0 : Int) : Option (Bool) := if a0 ≥ 0 then (if a0 < 55296 then (some true) else (if a0 > 57343 then (some (decide (a0 ≤ 1114111))) else (some false))) else (if a0 > 57343 then (some (decide (a0 ≤ 1114111))) else (some false))
set_option maxHeartbeats 8000000 in
set_option maxRecDepth 100000 in
theorem utf_Scalar.calls (a0 : Int) (r : Bool) (w : World) (h : utf_Scalar.f a0 = some r) :
    Calls Try.prog 29 #[.int .i32 a0] w fun e w' => e = .returned (.bool r) ∧ Drawn0 w w' := by
  have H : (if a0 ≥ 0 then (if a0 < 55296 then (some true) else (if a0 > 57343 then (some (decide (a0 ≤ 1114111))) else (some false))) else (if a0 > 57343 then (some (decide (a0 ≤ 1114111))) else (some false))) = some r := h
  clear h
  by_cases c2 : a0 ≥ 0
  · rw [if_pos c2] at H
    have c2b0 : decide (0 ≤ a0) = true := decide_eq_true c2
    clear c2
    by_cases c3 : a0 < 55296
    · rw [if_pos c3] at H
      have c3b0 : decide (a0 < 55296) = true := decide_eq_true c3
      clear c3
      obtain rfl := Option.some.inj H
      go_enter Try.func29, Try.ntmps29
      go_wp2
      go_ret
      exact ⟨by first | rfl | (simp; done) | (simp [*]; done), by repeat (first | exact Drawn0.refl _ | apply Drawn0.step)⟩
    · rw [if_neg c3] at H
      have c3b0 : decide (a0 < 55296) = false := decide_eq_false c3
      clear c3
      by_cases c4 : a0 > 57343
      · rw [if_pos c4] at H
        have c4b0 : decide (57343 < a0) = true := decide_eq_true c4
        clear c4
        obtain rfl := Option.some.inj H
        go_enter Try.func29, Try.ntmps29
        go_wp2
        go_ret
        exact ⟨by first | rfl | (simp; done) | (simp [*]; done), by repeat (first | exact Drawn0.refl _ | apply Drawn0.step)⟩
      · rw [if_neg c4] at H
        have c4b0 : decide (57343 < a0) = false := decide_eq_false c4
        clear c4
        obtain rfl := Option.some.inj H
        go_enter Try.func29, Try.ntmps29
        go_wp2
        go_ret
        exact ⟨by first | rfl | (simp; done) | (simp [*]; done), by repeat (first | exact Drawn0.refl _ | apply Drawn0.step)⟩
  · rw [if_neg c2] at H
    have c2b0 : decide (0 ≤ a0) = false := decide_eq_false c2
    clear c2
    by_cases c5 : a0 > 57343
    · rw [if_pos c5] at H
      have c5b0 : decide (57343 < a0) = true := decide_eq_true c5
      clear c5
      obtain rfl := Option.some.inj H
      go_enter Try.func29, Try.ntmps29
      go_wp2
      go_ret
      exact ⟨by first | rfl | (simp; done) | (simp [*]; done), by repeat (first | exact Drawn0.refl _ | apply Drawn0.step)⟩
    · rw [if_neg c5] at H
      have c5b0 : decide (57343 < a0) = false := decide_eq_false c5
      clear c5
      obtain rfl := Option.some.inj H
      go_enter Try.func29, Try.ntmps29
      go_wp2
      go_ret
      exact ⟨by first | rfl | (simp; done) | (simp [*]; done), by repeat (first | exact Drawn0.refl _ | apply Drawn0.step)⟩

-- NOT PRINTED: function 62 (width_marks)

-- NOT PRINTED: function 63 (width_wides)

/-! ### width_Of: function 36: of own contracts -/
def width_Of.f (a0 : Int) : Option (Int) := some (wOf a0)
theorem width_Of.calls (a0 : Int) (r : Int) (w : World) (h : width_Of.f a0 = some r) :
    Calls Try.prog 36 #[.int .i32 a0] w fun e w' => e = .returned (.int .i64 r) ∧ Below w.heap.size w w' := by
  obtain rfl := Option.some.inj h
  exact Of_any a0 w

/-! ### width_Plain: function 39 -/
def width_Plain.f (a0 : Int) : Option (Bool) := (width_Of.f a0).bind fun t135 => (some (t135 == 1))
set_option maxHeartbeats 8000000 in
set_option maxRecDepth 100000 in
theorem width_Plain.calls (a0 : Int) (r : Bool) (w : World) (h : width_Plain.f a0 = some r) :
    Calls Try.prog 39 #[.int .i32 a0] w fun e w' => e = .returned (.bool r) ∧ Below w.heap.size w w' := by
  have HB := Aside0.mk (Below.refl w.heap.size w)
  have H : ((width_Of.f a0).bind fun t135 => (some (t135 == 1))) = some r := h
  clear h
  replace H := Option.bind_eq_some_iff.mp H
  obtain ⟨t135, A20, H⟩ := H
  replace H : (some (t135 == 1)) = some r := H
  have A2 := Aside0.mk A20
  clear A20
  obtain rfl := Option.some.inj H
  go_enter Try.func39, Try.ntmps39
  go_wp2_with (first | ((with_reducible refine gate_callee (f := 36) rfl ?_); refine goesL_ (some 4) rfl rfl Try.func36 (by kernel_rfl) rfl #[.int .i32 a0] rfl (by (try simp only [List.map_toArray, List.map_cons, List.map_nil]); first | done | rfl | (simp only [List.length_drop, List.length_take]; rfl)) ?_; (with_reducible refine (width_Of.calls a0 t135 _ A2.out).mono ?_); rintro e w3 ⟨rfl, hb⟩; refine ⟨_, rfl, ?_⟩; have n0_ := Aside0.mk (below_step (by repeat (first | (with_reducible first | exact HB.out | apply below_alloc | apply pw_below_drewN | apply below_drew1) | exact HB.out)) hb); clear HB; have HB := n0_; clear n0_; (try clear hb); (try clear hb2); (try clear hk); (try clear hi)))
  go_ret
  exact ⟨by first | rfl | (simp [errW_none, errW_some] <;> rfl) | (simp [*, errW_none, errW_some] <;> rfl) | (cases hz_ : t213.toList <;> simp [hz_, errW_none, errW_some]), by repeat (first | (with_reducible first | exact HB.out | apply below_alloc | apply pw_below_drewN | apply below_drew1) | exact HB.out)⟩

theorem parse_more (l : List Int) (h : (parseZ l).2.2 = true) : parseZ l = (0, 0, true) := by
  match l with
  | [] => rfl
  | a :: t =>
    simp only [parseZ] at h ⊢
    by_cases h1 : a < 128
    · rw [if_pos h1] at h; simp at h
    rw [if_neg h1] at h ⊢
    by_cases h2 : a < 194 ∨ 244 < a
    · rw [if_pos h2] at h; simp at h
    rw [if_neg h2] at h ⊢
    match t with
    | [] => rfl
    | b :: t =>
      dsimp only at h ⊢
      by_cases h3 : two a b = false
      · rw [if_pos h3] at h; simp at h
      rw [if_neg h3] at h ⊢
      by_cases h4 : a < 224
      · rw [if_pos h4] at h; simp at h
      rw [if_neg h4] at h ⊢
      match t with
      | [] => rfl
      | c :: t =>
        dsimp only at h ⊢
        by_cases h5 : cont c = false
        · rw [if_pos h5] at h; simp at h
        rw [if_neg h5] at h ⊢
        by_cases h6 : a < 240
        · rw [if_pos h6] at h; simp at h
        rw [if_neg h6] at h ⊢
        match t with
        | [] => rfl
        | d :: t =>
          dsimp only at h ⊢
          by_cases h7 : cont d = false
          · rw [if_pos h7] at h; simp at h
          rw [if_neg h7] at h; simp at h
theorem pre3 (l : List Int) : [239, 191, 189] <+: l ↔ 3 ≤ l.length ∧ rd l 0 = 239 ∧ rd l 1 = 191 ∧ rd l 2 = 189 := by
  match l with
  | [] => simp
  | [a] => simp [List.cons_prefix_cons]
  | [a, b] => simp [List.cons_prefix_cons]
  | a :: b :: c :: t =>
    rw [List.cons_prefix_cons, List.cons_prefix_cons, List.cons_prefix_cons]
    simp [rd]
    omega
theorem broken_len (l : List Int) (h : [239, 191, 189] <+: l) : parseZ l = (65533, 3, false) := by
  obtain ⟨t, rfl⟩ := h
  rfl
theorem uValid_l : ∀ (n : Nat) (l : List Int) (k : Nat), l.length ≤ n → In8u l → n ≤ 1000000 → n + 12 < k → utf_Valid.l0 k l = some (validN n l) := by
  intro n
  induction n with
  | zero =>
    intro l k hl h8 ho hk
    obtain ⟨k, rfl⟩ : ∃ m, k = m + 1 := ⟨k - 1, by omega⟩
    rw [List.eq_nil_of_length_eq_zero (Nat.le_zero.1 hl), utf_Valid.l0, if_neg (by simp)]
    rfl
  | succ n ih =>
    intro l k hl h8 ho hk
    obtain ⟨k, rfl⟩ : ∃ m, k = m + 1 := ⟨k - 1, by omega⟩
    match l with
    | [] => rw [utf_Valid.l0, if_neg (by simp)]; rfl
    | a :: t =>
      rw [utf_Valid.l0, if_pos (by simp only [List.length_cons]; omega), p_parse (a :: t) h8 (by simp) k (by omega), validN]
      · simp only [Option.bind_some]
        by_cases hb : (parseZ (a :: t)).2.2 = true
        · rw [if_pos hb, if_pos hb]
        · have hp := parseZ_pos a t (Bool.eq_false_iff.2 hb)
          have hi := ih ((a :: t).drop (parseZ (a :: t)).2.1.toNat) k (by rw [List.length_drop]; omega) (fun x hx => h8 x (List.mem_of_mem_drop hx)) (by omega) (by omega)
          rw [if_neg hb, if_neg hb]
          by_cases hr : (parseZ (a :: t)).1 = 65533
          · rw [if_pos hr]
            by_cases h3 : [239, 191, 189] <+: a :: t
            · have hq := broken_len _ h3
              rw [pre3] at h3
              rw [hq] at hi hp ⊢
              rw [if_pos rfl, if_pos (by omega), if_pos h3.2.1, if_pos (by omega), if_pos h3.2.2.1, if_pos (by omega), if_pos h3.2.2.2, if_pos (by dsimp only; omega), if_pos (by dsimp only; omega), hi, if_neg (fun hh => hh.2 ((pre3 (a :: t)).2 h3))]
            · rw [if_pos (show (parseZ (a :: t)).1 = 65533 ∧ ¬ [239, 191, 189] <+: a :: t from ⟨hr, h3⟩)]
              by_cases c3 : (parseZ (a :: t)).2.1 = 3
              · rw [if_pos c3, if_pos (by omega)]
                by_cases d0 : rd (a :: t) 0 = 239
                · rw [if_pos d0, if_pos (by omega)]
                  by_cases d1 : rd (a :: t) 1 = 191
                  · rw [if_pos d1, if_pos (by omega)]
                    by_cases d2 : rd (a :: t) 2 = 189
                    · exact absurd ((pre3 _).2 ⟨by omega, d0, d1, d2⟩) h3
                    · rw [if_neg d2]
                  · rw [if_neg d1]
                · rw [if_neg d0]
              · rw [if_neg c3]
          · rw [if_neg hr, if_pos (by omega), if_pos (by omega), if_neg (by simp [hr]), hi]
      · simp
theorem uValid_ok (l : List Int) (h8 : In8u l) (hl : l.length ≤ 1000000) (k : Nat) (hk : l.length + 12 < k) : utf_Valid.f k l = some (decide ((runesZ l).flatMap enc = l)) := by
  unfold utf_Valid.f
  rw [uValid_l l.length l k (Nat.le_refl _) h8 hl hk, valid_iff l.length l (Nat.le_refl _) h8]
theorem kValid (A : Option Addr) (c : Nat) (l : List Int) (w : World) (hC : (Kd.int .u8).C w A l.length l) (hc : l.length ≤ c) (h8 : In8u l) (hl : l.length ≤ 1000) :
    Calls Try.prog 20 #[.slice A l.length c] w fun e w' => e = .returned (.bool (validK l)) ∧ Below w.heap.size w w' :=
  utf_Valid.calls (l.length + 13) (fun k_ => k_ < w.heap.size) A c l _ w (Kd.V_mk hc (Kd.F_below (Kd.C_F (Kd.heap_int .u8) hC) (Below.refl _ _))) (uValid_ok l h8 (by omega) _ (by omega))
theorem kPlain (r : Int) (w : World) : Calls Try.prog 39 #[.int .i32 r] w fun e w' => e = .returned (.bool (plainK r)) ∧ Below w.heap.size w w' :=
  width_Plain.calls r (plainK r) w rfl
/-! ### key_Of: function 46: of own contracts -/
def key_Of.f (l0 : List Int) : Option (Int × Int) := if l0.all (fun x => decide (0 ≤ x ∧ x ≤ 255)) = true ∧ l0.length ≤ 1000 then some (ofK l0) else none
theorem key_Of.calls (A0 : Option Addr) (c0 : Nat) (l0 : List Int) (r1 : Int) (r2 : Int) (w : World) (hr0 : Kd.C (Kd.int .u8) w A0 l0.length l0) (hc0 : l0.length ≤ c0) (h : key_Of.f l0 = some (r1, r2)) :
    Calls Try.prog 46 #[.slice A0 l0.length c0] w fun e w' => e = .returned (.agg #[.int .i64 r1, .int .i32 r2]) ∧ Below w.heap.size w w' := by
  unfold key_Of.f at h
  by_cases hb : l0.all (fun x => decide (0 ≤ x ∧ x ≤ 255)) = true ∧ l0.length ≤ 1000
  · rw [if_pos hb] at h
    exact Of_walk kFirst kValid kPlain A0 c0 l0 r1 r2 w hr0 hc0 (all8K.1 hb.1) hb.2 (Option.some.inj h)
  · rw [if_neg hb] at h; cases h

/-! ### prolepsislaw22_known: function 45: of own contracts -/
def prolepsislaw22_known.f  : Option (Bool) := some true
theorem prolepsislaw22_known.calls  (r : Bool) (w : World) (h : prolepsislaw22_known.f  = some r) :
    Calls Try.prog 45 #[] w fun e w' => e = .returned (.bool r) ∧ Below w.heap.size w w' := by
  cases h
  refine known22_walk ?_ ?_ w
  · intro A c l r1 r2 w hC hc h8 hl hq
    exact key_Of.calls A c l r1 r2 w hC hc (by unfold key_Of.f; rw [if_pos ⟨all8K.2 h8, hl⟩, hq])
  · intro A c l w hC hc h8 hl
    exact key_Split.calls A c l _ w hC hc (by unfold key_Split.f; rw [if_pos ⟨all8K.2 h8, hl⟩])

theorem or_and6 (j : Int) : Go.bits .or .u8 128 (Go.bits .and .u8 (j % 256) 63) = 128 + j % 64 := by
  rw [u8_and63 (j % 256) (by omega) (by omega), u8_or128 (j % 256 % 64) (by omega) (by omega)]
  omega
/-! ### utf_Bytes: function 27 -/
mutual
def utf_Bytes.l0 : Nat → List Int → List Int → Int → Int → Option (List Int)
  | 0, _, _, _, _ => none
  | k + 1, x3, x8, x9, x10 => if x10 < x9 then (if 0 ≤ x10 then (if x10 < (x8.length : Int) then ((utf_Scalar.f (rd x8 x10)).bind fun t144 => (if t144 = true then (utf_Bytes.j1 k x3 (rd x8 x10) x8 x9 x10) else (utf_Bytes.j1 k x3 65533 x8 x9 x10))) else (none)) else (none)) else (some x3)
def utf_Bytes.j1 : Nat → List Int → Int → List Int → Int → Int → Option (List Int)
  | 0, _, _, _, _, _ => none
  | k + 1, x3, x5, x8, x9, x10 => if x5 > 65535 then (utf_Bytes.j2 k x3 x5 18 240 x8 x9 x10) else (if x5 > 2047 then (utf_Bytes.j2 k x3 x5 12 224 x8 x9 x10) else (if x5 > 127 then (utf_Bytes.j2 k x3 x5 6 192 x8 x9 x10) else (utf_Bytes.j2 k x3 x5 0 0 x8 x9 x10)))
def utf_Bytes.j2 : Nat → List Int → Int → Int → Int → List Int → Int → Int → Option (List Int)
  | 0, _, _, _, _, _, _, _ => none
  | k + 1, x3, x5, x6, x7, x8, x9, x10 => if 0 ≤ x6 then (if x3.length < 140737488355328 then (utf_Bytes.l1 k (x3 ++ [Go.bits .or .u8 x7 ((shr .i32 x5 x6) % 256)]) x5 x6 x8 x9 x10) else (none)) else (none)
def utf_Bytes.l1 : Nat → List Int → Int → Int → List Int → Int → Int → Option (List Int)
  | 0, _, _, _, _, _, _ => none
  | k + 1, x3, x5, x6, x8, x9, x10 => if x6 > 0 then (if 0 ≤ (wrap64 (x6 - 6)) then (if x3.length < 140737488355328 then (utf_Bytes.l1 k (x3 ++ [Go.bits .or .u8 128 (Go.bits .and .u8 ((shr .i32 x5 (wrap64 (x6 - 6))) % 256) 63)]) x5 (wrap64 (x6 - 6)) x8 x9 x10) else (none)) else (none)) else (utf_Bytes.l0 k x3 x8 x9 (wrap64 (x10 + 1)))
end
def utf_Bytes.f (k : Nat) (l0 : List Int) : Option (List Int) := utf_Bytes.l0 k ([] : List Int) l0 (l0.length : Int) 0
theorem utf_Bytes.mono_l : ∀ k, (∀ y0 y1 y2 y3, LeO (utf_Bytes.l0 k y0 y1 y2 y3) (utf_Bytes.l0 (k + 1) y0 y1 y2 y3)) ∧ (∀ y0 y1 y2 y3 y4, LeO (utf_Bytes.j1 k y0 y1 y2 y3 y4) (utf_Bytes.j1 (k + 1) y0 y1 y2 y3 y4)) ∧ (∀ y0 y1 y2 y3 y4 y5 y6, LeO (utf_Bytes.j2 k y0 y1 y2 y3 y4 y5 y6) (utf_Bytes.j2 (k + 1) y0 y1 y2 y3 y4 y5 y6)) ∧ (∀ y0 y1 y2 y3 y4 y5, LeO (utf_Bytes.l1 k y0 y1 y2 y3 y4 y5) (utf_Bytes.l1 (k + 1) y0 y1 y2 y3 y4 y5))
  | 0 => ⟨fun _ _ _ _ r h => by simp [utf_Bytes.l0] at h, fun _ _ _ _ _ r h => by simp [utf_Bytes.j1] at h, fun _ _ _ _ _ _ _ r h => by simp [utf_Bytes.j2] at h, fun _ _ _ _ _ _ r h => by simp [utf_Bytes.l1] at h⟩
  | k + 1 => by
    obtain ⟨ih0, ih1, ih2, ih3⟩ := utf_Bytes.mono_l k
    refine ⟨?_, ?_, ?_, ?_⟩
    · intro y0 y1 y2 y3
      unfold utf_Bytes.l0
      repeat' first
      | (with_reducible exact ih0 _ _ _ _)
      | (with_reducible exact ih1 _ _ _ _ _)
      | (with_reducible exact ih2 _ _ _ _ _ _ _)
      | (with_reducible exact ih3 _ _ _ _ _ _)
      | (with_reducible exact LeO.refl _)
      | (with_reducible exact LeO.none _)
      | (with_reducible refine LeO.ite ?_ ?_)
      | (with_reducible refine LeO.bind ?_ (fun _ => ?_))
      | exact ih0 _ _ _ _
      | exact ih1 _ _ _ _ _
      | exact ih2 _ _ _ _ _ _ _
      | exact ih3 _ _ _ _ _ _
      | exact LeO.none _
      | refine LeO.ite ?_ ?_
      | refine LeO.bind ?_ (fun _ => ?_)
    · intro y0 y1 y2 y3 y4
      unfold utf_Bytes.j1
      repeat' first
      | (with_reducible exact ih0 _ _ _ _)
      | (with_reducible exact ih1 _ _ _ _ _)
      | (with_reducible exact ih2 _ _ _ _ _ _ _)
      | (with_reducible exact ih3 _ _ _ _ _ _)
      | (with_reducible exact LeO.refl _)
      | (with_reducible exact LeO.none _)
      | (with_reducible refine LeO.ite ?_ ?_)
      | (with_reducible refine LeO.bind ?_ (fun _ => ?_))
      | exact ih0 _ _ _ _
      | exact ih1 _ _ _ _ _
      | exact ih2 _ _ _ _ _ _ _
      | exact ih3 _ _ _ _ _ _
      | exact LeO.none _
      | refine LeO.ite ?_ ?_
      | refine LeO.bind ?_ (fun _ => ?_)
    · intro y0 y1 y2 y3 y4 y5 y6
      unfold utf_Bytes.j2
      repeat' first
      | (with_reducible exact ih0 _ _ _ _)
      | (with_reducible exact ih1 _ _ _ _ _)
      | (with_reducible exact ih2 _ _ _ _ _ _ _)
      | (with_reducible exact ih3 _ _ _ _ _ _)
      | (with_reducible exact LeO.refl _)
      | (with_reducible exact LeO.none _)
      | (with_reducible refine LeO.ite ?_ ?_)
      | (with_reducible refine LeO.bind ?_ (fun _ => ?_))
      | exact ih0 _ _ _ _
      | exact ih1 _ _ _ _ _
      | exact ih2 _ _ _ _ _ _ _
      | exact ih3 _ _ _ _ _ _
      | exact LeO.none _
      | refine LeO.ite ?_ ?_
      | refine LeO.bind ?_ (fun _ => ?_)
    · intro y0 y1 y2 y3 y4 y5
      unfold utf_Bytes.l1
      repeat' first
      | (with_reducible exact ih0 _ _ _ _)
      | (with_reducible exact ih1 _ _ _ _ _)
      | (with_reducible exact ih2 _ _ _ _ _ _ _)
      | (with_reducible exact ih3 _ _ _ _ _ _)
      | (with_reducible exact LeO.refl _)
      | (with_reducible exact LeO.none _)
      | (with_reducible refine LeO.ite ?_ ?_)
      | (with_reducible refine LeO.bind ?_ (fun _ => ?_))
      | exact ih0 _ _ _ _
      | exact ih1 _ _ _ _ _
      | exact ih2 _ _ _ _ _ _ _
      | exact ih3 _ _ _ _ _ _
      | exact LeO.none _
      | refine LeO.ite ?_ ?_
      | refine LeO.bind ?_ (fun _ => ?_)
theorem utf_Bytes.mono : ∀ a0 k, LeO (utf_Bytes.f k a0) (utf_Bytes.f (k + 1) a0) := by
  intro a0 k
  obtain ⟨ih0, ih1, ih2, ih3⟩ := utf_Bytes.mono_l k
  unfold utf_Bytes.f
  repeat' first
      | (with_reducible exact ih0 _ _ _ _)
      | (with_reducible exact ih1 _ _ _ _ _)
      | (with_reducible exact ih2 _ _ _ _ _ _ _)
      | (with_reducible exact ih3 _ _ _ _ _ _)
      | (with_reducible exact LeO.refl _)
      | (with_reducible exact LeO.none _)
      | (with_reducible refine LeO.ite ?_ ?_)
      | (with_reducible refine LeO.bind ?_ (fun _ => ?_))
      | exact ih0 _ _ _ _
      | exact ih1 _ _ _ _ _
      | exact ih2 _ _ _ _ _ _ _
      | exact ih3 _ _ _ _ _ _
      | exact LeO.none _
      | refine LeO.ite ?_ ?_
      | refine LeO.bind ?_ (fun _ => ?_)
set_option maxHeartbeats 8000000 in
set_option maxRecDepth 100000 in
theorem utf_Bytes.calls (k : Nat) (A0 : Option Addr) (c0 : Nat) (l0 : List Int) (r : List Int) (w : World) (hr0 : Kd.C (Kd.int .i32) w A0 l0.length l0) (hc0 : l0.length ≤ c0) (h : utf_Bytes.f k l0 = some r) :
    Calls Try.prog 27 #[.slice A0 l0.length c0] w fun e w' => ∃ v0_ : Value, e = .returned (v0_) ∧ Kd.R (Kd.int .u8) 5 w' w.heap.size (fun _ => True) v0_ r ∧ Below w.heap.size w w' := by
  have HR0 := Aside0.mk hr0
  have HC0 := Aside0.mk hc0
  clear hr0 hc0
  have HB := Aside0.mk (Below.refl w.heap.size w)
  have H : (utf_Bytes.l0 k ([] : List Int) l0 (l0.length : Int) 0) = some r := h
  clear h
  have H' := Aside0.mk H
  clear H
  go_enter Try.func27, Try.ntmps27
  go_wp2
  go_loopg [3, 10] k (fun kq v3 v10 w' => ∃ (x3_1 : List Int) (x10_1 : Int), v10 = .int .i64 x10_1 ∧ Aside0 (utf_Bytes.l0 kq x3_1 l0 (l0.length : Int) x10_1 = some r) ∧ Aside0 (kq ≤ k) ∧ Aside0 (Kd.R (Kd.int .u8) 5 w' w.heap.size (fun _ => True) v3 x3_1) ∧ Aside0 (Below w.heap.size w w'))
  case atStart => exact ⟨(([] : List Int)), (0), (by first | rfl | (simp; done) | (simp [*]; done)), H', ⟨Nat.le_refl _⟩, ⟨by first | exact Kd.R_nil _ _ _ _ _ | exact Kd.N_nil _ _ _ _ _ | exact Kd.V_nil _ _ _ _ _ | exact Kd.Q_nil _ _ _ _ _ | exact Kd.S_nil _ _ _ _ _⟩, ⟨by repeat (first | (with_reducible first | exact HB.out | apply below_alloc | apply pw_below_drewN | apply below_drew1) | exact HB.out)⟩⟩
  case round =>
    clear H'
    obtain ⟨x3_1, x10_1, rfl, HA, HK1, HO_3, HB⟩ := hrel
    cases gk with
    | zero => exact absurd HA.out (by simp [utf_Bytes.l0])
    | succ k1 =>
      have H := HA.out
      clear HA
      simp only [utf_Bytes.l0] at H
      by_cases c2 : x10_1 < (l0.length : Int)
      · rw [if_pos c2] at H
        have c2b0 : decide (x10_1 < (l0.length : Int)) = true := decide_eq_true c2
        clear c2
        by_cases c3 : 0 ≤ x10_1
        · rw [if_pos c3] at H
          have c3b0 : decide (0 ≤ x10_1) = true := decide_eq_true c3
          clear c3
          by_cases c4 : x10_1 < (l0.length : Int)
          · rw [if_pos c4] at H
            have c4b0 : decide (x10_1 < (l0.length : Int)) = true := decide_eq_true c4
            clear c4
            replace H := Option.bind_eq_some_iff.mp H
            obtain ⟨t144, A50, H⟩ := H
            replace H : (if t144 = true then (utf_Bytes.j1 k1 x3_1 (rd l0 x10_1) l0 (l0.length : Int) x10_1) else (utf_Bytes.j1 k1 x3_1 65533 l0 (l0.length : Int) x10_1)) = some r := H
            have A5 := Aside0.mk A50
            clear A50
            have HC6 := Aside0.mk H
            clear H
            have p143 : 0 ≤ (x10_1 : Int) := of_decide_eq_true (by first | (with_reducible assumption) | assumption)
            have q143 : x10_1 < (l0.length : Int) := of_decide_eq_true (by first | (with_reducible assumption) | assumption)
            obtain ⟨ad143, e143, hx143_0⟩ := Kd.at_int HR0.out x10_1 p143 q143
            cases e143
            replace hx143_0 := (HB.out.cell (World.block_lt_of_cell? w _ hx143_0)).trans hx143_0
            replace p143 := eq_true p143
            replace q143 := eq_true q143
            go_upto_if 16 with (first | ((with_reducible refine gate_callee (f := 29) rfl ?_); refine goesL_ (some 15) rfl rfl Try.func29 (by kernel_rfl) rfl #[.int .i32 (rd l0 x10_1)] rfl (by (try simp only [List.map_toArray, List.map_cons, List.map_nil]); first | done | rfl | (simp only [List.length_drop, List.length_take]; rfl)) ?_; (with_reducible refine (utf_Scalar.calls (rd l0 x10_1) t144 _ A5.out).mono ?_); rintro e w' ⟨rfl, ⟨nd, rfl⟩⟩; refine ⟨_, rfl, ?_⟩))
            (try simp only [Act.put, List.setIfInBounds_toArray, List.set_cons_zero, List.set_cons_succ])
            go_cut [5] (fun v5 wc => ∃ (kq : Nat) (x5_5 : Int), v5 = .int .i32 x5_5 ∧ Aside0 (utf_Bytes.j1 kq x3_1 x5_5 l0 (l0.length : Int) x10_1 = some r) ∧ Aside0 (kq ≤ k1) ∧ Aside0 (Kd.R (Kd.int .u8) 5 wc w.heap.size (fun _ => True) u3 x3_1) ∧ Aside0 (Below w.heap.size w wc))
            case first =>
              have H := HC6.out
              clear HC6
              by_cases c7 : t144 = true
              · subst c7
                have H1 : (utf_Bytes.j1 k1 x3_1 (rd l0 x10_1) l0 (l0.length : Int) x10_1) = some r := by rw [if_pos rfl] at H; exact H
                clear H
                have H := H1
                clear H1
                have H' := Aside0.mk H
                clear H
                go_wp2
                go_meet
                case rel => exact ⟨_, (rd l0 x10_1), (by first | rfl | (simp; done) | (simp [*]; done)), H', ⟨by have := HK1.out; first | omega | exact Nat.le_refl _⟩, ⟨by (with_reducible repeat (first | apply Kd.R_alloc | apply Kd.R_drewN | apply Kd.R_drew)); exact HO_3.out⟩, ⟨by repeat (first | (with_reducible first | exact HB.out | apply below_alloc | apply pw_below_drewN | apply below_drew1) | exact HB.out)⟩⟩
              · replace c7 := Bool.eq_false_iff.mpr c7
                subst c7
                have H1 : (utf_Bytes.j1 k1 x3_1 65533 l0 (l0.length : Int) x10_1) = some r := by rw [if_neg (show ¬ (false = true) by decide)] at H; exact H
                clear H
                have H := H1
                clear H1
                have H' := Aside0.mk H
                clear H
                go_wp2
                go_meet
                case rel => exact ⟨_, (65533), (by first | rfl | (simp; done) | (simp [*]; done)), H', ⟨by have := HK1.out; first | omega | exact Nat.le_refl _⟩, ⟨by (with_reducible repeat (first | apply Kd.R_alloc | apply Kd.R_drewN | apply Kd.R_drew)); exact HO_3.out⟩, ⟨by repeat (first | (with_reducible first | exact HB.out | apply below_alloc | apply pw_below_drewN | apply below_drew1) | exact HB.out)⟩⟩
            case rest =>
              clear HC6
              try clear p1
              try clear q1
              try clear hx1
              try clear c2
              try clear c2b0
              try clear p2
              try clear c3
              try clear c3b0
              try clear c4
              try clear c4b0
              try clear c7
              try clear hx143_0
              try clear p143
              try clear q143
              obtain ⟨kq, x5_5, rfl, HA, HJ5, HO_3, HB⟩ := hcut
              cases kq with
              | zero => exact absurd HA.out (by simp [utf_Bytes.j1])
              | succ kj5 =>
                have H := HA.out
                clear HA
                simp only [utf_Bytes.j1] at H
                have HC8 := Aside0.mk H
                clear H
                go_upto_block 2 with (fail)
                go_cut [6, 7] (fun v6 v7 wc => ∃ (kq : Nat) (x6_7 : Int) (x7_7 : Int), v6 = .int .i64 x6_7 ∧ v7 = .int .u8 x7_7 ∧ Aside0 (utf_Bytes.j2 kq x3_1 x5_5 x6_7 x7_7 l0 (l0.length : Int) x10_1 = some r) ∧ Aside0 (kq ≤ kj5) ∧ Aside0 (Kd.R (Kd.int .u8) 5 wc w.heap.size (fun _ => True) u3 x3_1) ∧ Aside0 (Below w.heap.size w wc))
                case first =>
                  have H := HC8.out
                  clear HC8
                  by_cases c9 : x5_5 > 65535
                  · rw [if_pos c9] at H
                    have c9b0 : decide (65535 < x5_5) = true := decide_eq_true c9
                    clear c9
                    (first | rw [c9b0] | (simp only [i64_w, i32_w]; rw [c9b0]) | skip)
                    have H' := Aside0.mk H
                    clear H
                    go_wp2
                    go_meet
                    case rel => exact ⟨_, (18), (240), (by first | rfl | (simp; done) | (simp [*]; done)), (by first | rfl | (simp; done) | (simp [*]; done)), H', ⟨by have := HK1.out; have := HJ5.out; first | omega | exact Nat.le_refl _⟩, ⟨by (with_reducible repeat (first | apply Kd.R_alloc | apply Kd.R_drewN | apply Kd.R_drew)); exact HO_3.out⟩, ⟨by repeat (first | (with_reducible first | exact HB.out | apply below_alloc | apply pw_below_drewN | apply below_drew1) | exact HB.out)⟩⟩
                  · rw [if_neg c9] at H
                    have c9b0 : decide (65535 < x5_5) = false := decide_eq_false c9
                    clear c9
                    (first | rw [c9b0] | (simp only [i64_w, i32_w]; rw [c9b0]) | skip)
                    by_cases c10 : x5_5 > 2047
                    · rw [if_pos c10] at H
                      have c10b0 : decide (2047 < x5_5) = true := decide_eq_true c10
                      clear c10
                      have H' := Aside0.mk H
                      clear H
                      go_wp2
                      go_meet
                      case rel => exact ⟨_, (12), (224), (by first | rfl | (simp; done) | (simp [*]; done)), (by first | rfl | (simp; done) | (simp [*]; done)), H', ⟨by have := HK1.out; have := HJ5.out; first | omega | exact Nat.le_refl _⟩, ⟨by (with_reducible repeat (first | apply Kd.R_alloc | apply Kd.R_drewN | apply Kd.R_drew)); exact HO_3.out⟩, ⟨by repeat (first | (with_reducible first | exact HB.out | apply below_alloc | apply pw_below_drewN | apply below_drew1) | exact HB.out)⟩⟩
                    · rw [if_neg c10] at H
                      have c10b0 : decide (2047 < x5_5) = false := decide_eq_false c10
                      clear c10
                      by_cases c11 : x5_5 > 127
                      · rw [if_pos c11] at H
                        have c11b0 : decide (127 < x5_5) = true := decide_eq_true c11
                        clear c11
                        have H' := Aside0.mk H
                        clear H
                        go_wp2
                        go_meet
                        case rel => exact ⟨_, (6), (192), (by first | rfl | (simp; done) | (simp [*]; done)), (by first | rfl | (simp; done) | (simp [*]; done)), H', ⟨by have := HK1.out; have := HJ5.out; first | omega | exact Nat.le_refl _⟩, ⟨by (with_reducible repeat (first | apply Kd.R_alloc | apply Kd.R_drewN | apply Kd.R_drew)); exact HO_3.out⟩, ⟨by repeat (first | (with_reducible first | exact HB.out | apply below_alloc | apply pw_below_drewN | apply below_drew1) | exact HB.out)⟩⟩
                      · rw [if_neg c11] at H
                        have c11b0 : decide (127 < x5_5) = false := decide_eq_false c11
                        clear c11
                        have H' := Aside0.mk H
                        clear H
                        go_wp2
                        go_meet
                        case rel => exact ⟨_, (0), (0), (by first | rfl | (simp; done) | (simp [*]; done)), (by first | rfl | (simp; done) | (simp [*]; done)), H', ⟨by have := HK1.out; have := HJ5.out; first | omega | exact Nat.le_refl _⟩, ⟨by (with_reducible repeat (first | apply Kd.R_alloc | apply Kd.R_drewN | apply Kd.R_drew)); exact HO_3.out⟩, ⟨by repeat (first | (with_reducible first | exact HB.out | apply below_alloc | apply pw_below_drewN | apply below_drew1) | exact HB.out)⟩⟩
                case rest =>
                  clear HC8
                  try clear c1
                  try clear p1
                  try clear q1
                  try clear hx1
                  try clear c2
                  try clear c2b0
                  try clear p2
                  try clear c3
                  try clear c3b0
                  try clear c4
                  try clear c4b0
                  try clear c7
                  try clear c9
                  try clear c9b0
                  try clear c10
                  try clear c10b0
                  try clear c11
                  try clear c11b0
                  try clear hx143_0
                  try clear p1
                  try clear p143
                  try clear p2
                  try clear q1
                  try clear q143
                  obtain ⟨kq, x6_7, x7_7, rfl, rfl, HA, HJ7, HO_3, HB⟩ := hcut
                  cases kq with
                  | zero => exact absurd HA.out (by simp [utf_Bytes.j2])
                  | succ kj7 =>
                    have H := HA.out
                    clear HA
                    simp only [utf_Bytes.j2] at H
                    by_cases c12 : 0 ≤ x6_7
                    · rw [if_pos c12] at H
                      have c12b0 := eq_true c12
                      have c12b1 : decide (0 ≤ x6_7) = true := decide_eq_true c12
                      clear c12
                      obtain ⟨ji13, hji13⟩ : ∃ j_ : Int, (shr .i32 x5_5 x6_7) = j_ := ⟨_, rfl⟩
                      replace H : (if x3_1.length < 140737488355328 then (utf_Bytes.l1 kj7 (x3_1 ++ [Go.bits .or .u8 x7_7 ((ji13) % 256)]) x5_5 x6_7 l0 (l0.length : Int) x10_1) else (none)) = some r := by first | (rw [hji13] at H; exact H) | (simp only [hji13] at H ⊢; exact H)
                      have hji13_ : (x5_5 / 2 ^ min x6_7.toNat 32) = ji13 := hji13
                      have hji13z : x6_7 ≤ 32 → (x5_5 / 2 ^ x6_7.toNat) = ji13 := shr_small hji13
                      by_cases c14 : x3_1.length < 140737488355328
                      · rw [if_pos c14] at H
                        have LMc14 := Aside0.mk c14
                        clear c14
                        obtain ⟨y145, hy145⟩ : ∃ y_ : List Int, y_ = (x3_1 ++ [Go.bits .or .u8 x7_7 ((ji13) % 256)]) := ⟨_, rfl⟩
                        replace H : (utf_Bytes.l1 kj7 y145 x5_5 x6_7 l0 (l0.length : Int) x10_1) = some r := by first | (rw [hy145]; with_reducible exact H) | (have H2_ := (Option.bind_some _ _).symm.trans H; rw [hy145]; with_reducible exact H2_) | (have H2_ := (Option.bind_some _ _).symm.trans H; with_reducible exact H2_) | with_reducible exact H | (rw [hy145]; exact H) | exact H
                        have Ny145 := Aside0.mk hy145
                        clear hy145
                        have H' := Aside0.mk H
                        clear H
                        go_wp2_with (first | ((with_reducible refine gate_builtin (b := .append) (xs := #[.tmp 26, .tmp 33]) rfl ?_); at_builtin; refine Kd.R_append (Kd.int .u8) (w0 := w) w.heap.size rfl (.tmp 26) (.tmp 33) 22 5 (.int .u8 0) 1 rfl Try.underlying22 info5 rfl (by decide) (by omega) u3 x3_1 (Go.bits .or .u8 x7_7 ((ji13) % 256)) [.int .u8 (Go.bits .or .u8 x7_7 ((ji13) % 256))] (fun _ => True) (fun _ => False) rfl rfl ?aP (fun _ hk => hk.elim) ?aF ?aO ?aB ?aS ?aL ?_; (case aP => exact rfl); (case aB => exact (by repeat (first | (with_reducible first | exact HB.out | apply below_alloc | apply pw_below_drewN | apply below_drew1) | exact HB.out))); (case aF => exact (fun _ _ => trivial)); (case aO => exact (by (with_reducible repeat (first | apply Kd.R_alloc | apply Kd.R_drewN | apply Kd.R_drew)); exact HO_3.out)); (case aS => exact (below_size (by repeat (first | (with_reducible first | exact HB.out | apply below_alloc | apply pw_below_drewN | apply below_drew1) | exact HB.out)))); (case aL => have := LMc14.out; omega); intro v146 w15 ho hb hg hat; rw [← Ny145.out] at ho; have n0_ := Aside0.mk (hb); have n1_ := Aside0.mk (ho); clear HB; clear HO_3; have HB := n0_; have HO147 := n1_; clear n0_ n1_; clear ho hb hg hat))
                        go_loopg [3, 6] kj7 (fun kq v3 v6 w' => ∃ (x3_4 : List Int) (x6_4 : Int), v6 = .int .i64 x6_4 ∧ Aside0 (utf_Bytes.l1 kq x3_4 x5_5 x6_4 l0 (l0.length : Int) x10_1 = some r) ∧ Aside0 (kq ≤ kj7) ∧ Aside0 (Kd.R (Kd.int .u8) 5 w' w.heap.size (fun _ => True) v3 x3_4) ∧ Aside0 (Below w.heap.size w w'))
                        case atStart => exact ⟨(y145), (x6_7), (by first | rfl | (simp; done) | (simp [*]; done)), H', ⟨Nat.le_refl _⟩, ⟨by (with_reducible repeat (first | apply Kd.R_alloc | apply Kd.R_drewN | apply Kd.R_drew)); exact HO147.out⟩, ⟨by repeat (first | (with_reducible first | exact HB.out | apply below_alloc | apply pw_below_drewN | apply below_drew1) | exact HB.out)⟩⟩
                        case round =>
                          clear H'
                          try clear c1
                          try clear p1
                          try clear q1
                          try clear hx1
                          try clear c2
                          try clear c2b0
                          try clear p2
                          try clear c3
                          try clear c3b0
                          try clear c4
                          try clear c4b0
                          try clear c7
                          try clear c9
                          try clear c9b0
                          try clear c10
                          try clear c10b0
                          try clear c11
                          try clear c11b0
                          try clear c12
                          try clear c12b0
                          try clear c12b1
                          try clear c14
                          try clear p14
                          try clear q14
                          try clear hx14
                          try clear hx143_0
                          try clear p1
                          try clear p143
                          try clear p2
                          try clear q1
                          try clear q143
                          obtain ⟨x3_4, x6_4, rfl, HA, HK4, HO_3, HB⟩ := hrel
                          cases gk with
                          | zero => exact absurd HA.out (by simp [utf_Bytes.l1])
                          | succ k4 =>
                            have H := HA.out
                            clear HA
                            simp only [utf_Bytes.l1] at H
                            by_cases c16 : x6_4 > 0
                            · rw [if_pos c16] at H
                              have c16b0 : decide (0 < x6_4) = true := decide_eq_true c16
                              clear c16
                              obtain ⟨ji17, hji17⟩ : ∃ j_ : Int, (wrap64 (x6_4 - 6)) = j_ := ⟨_, rfl⟩
                              replace H : (if 0 ≤ (ji17) then (if x3_4.length < 140737488355328 then (utf_Bytes.l1 k4 (x3_4 ++ [Go.bits .or .u8 128 (Go.bits .and .u8 ((shr .i32 x5_5 (ji17)) % 256) 63)]) x5_5 ji17 l0 (l0.length : Int) x10_1) else (none)) else (none)) = some r := by first | (rw [hji17] at H; exact H) | (simp only [hji17] at H ⊢; exact H)
                              have hji17w : (IntKind.i64.wrap (x6_4 - 6)) = ji17 := (i64_w _).trans hji17
                              by_cases c18 : 0 ≤ (ji17)
                              · rw [if_pos c18] at H
                                have c18b0 := eq_true c18
                                have c18b1 : decide (0 ≤ (ji17)) = true := decide_eq_true c18
                                clear c18
                                obtain ⟨ji19, hji19⟩ : ∃ j_ : Int, (shr .i32 x5_5 (ji17)) = j_ := ⟨_, rfl⟩
                                replace H : (if x3_4.length < 140737488355328 then (utf_Bytes.l1 k4 (x3_4 ++ [Go.bits .or .u8 128 (Go.bits .and .u8 ((ji19) % 256) 63)]) x5_5 ji17 l0 (l0.length : Int) x10_1) else (none)) = some r := by first | (rw [hji19] at H; exact H) | (simp only [hji19] at H ⊢; exact H)
                                have hji19_ : (x5_5 / 2 ^ min (ji17).toNat 32) = ji19 := hji19
                                have hji19z : (ji17) ≤ 32 → (x5_5 / 2 ^ (ji17).toNat) = ji19 := shr_small hji19
                                by_cases c20 : x3_4.length < 140737488355328
                                · rw [if_pos c20] at H
                                  have LMc20 := Aside0.mk c20
                                  clear c20
                                  obtain ⟨y148, hy148⟩ : ∃ y_ : List Int, y_ = (x3_4 ++ [Go.bits .or .u8 128 (Go.bits .and .u8 ((ji19) % 256) 63)]) := ⟨_, rfl⟩
                                  replace H : (utf_Bytes.l1 k4 y148 x5_5 ji17 l0 (l0.length : Int) x10_1) = some r := by first | (rw [hy148]; with_reducible exact H) | (have H2_ := (Option.bind_some _ _).symm.trans H; rw [hy148]; with_reducible exact H2_) | (have H2_ := (Option.bind_some _ _).symm.trans H; with_reducible exact H2_) | with_reducible exact H | (rw [hy148]; exact H) | exact H
                                  rw [or_and6] at hy148
                                  have Ny148 := Aside0.mk hy148
                                  clear hy148
                                  have H' := Aside0.mk H
                                  clear H
                                  go_wp2_with (first | ((with_reducible refine gate_builtin (b := .append) (xs := #[.tmp 39, .tmp 46]) rfl ?_); at_builtin; refine Kd.R_append (Kd.int .u8) (w0 := w) w.heap.size rfl (.tmp 39) (.tmp 46) 22 5 (.int .u8 0) 1 rfl Try.underlying22 info5 rfl (by decide) (by omega) u3 x3_4 (128 + ji19 % 64) [.int .u8 (128 + ji19 % 64)] (fun _ => True) (fun _ => False) rfl rfl ?aP (fun _ hk => hk.elim) ?aF ?aO ?aB ?aS ?aL ?_; (case aP => exact rfl); (case aB => exact (by repeat (first | (with_reducible first | exact HB.out | apply below_alloc | apply pw_below_drewN | apply below_drew1) | exact HB.out))); (case aF => exact (fun _ _ => trivial)); (case aO => exact (by (with_reducible repeat (first | apply Kd.R_alloc | apply Kd.R_drewN | apply Kd.R_drew)); exact HO_3.out)); (case aS => exact (below_size (by repeat (first | (with_reducible first | exact HB.out | apply below_alloc | apply pw_below_drewN | apply below_drew1) | exact HB.out)))); (case aL => have := LMc20.out; omega); intro v149 w21 ho hb hg hat; rw [← Ny148.out] at ho; have n0_ := Aside0.mk (hb); have n1_ := Aside0.mk (ho); clear HB; clear HO_3; have HB := n0_; have HO150 := n1_; clear n0_ n1_; clear ho hb hg hat))
                                  go_roundg k4
                                  case measure => have := HK1.out; have := HJ5.out; have := HJ7.out; have := HK4.out; omega
                                  case rel => exact ⟨(y148), (ji17), (by first | rfl | (simp; done) | (simp only [← hji17] <;> (first | rfl | simp)) | (simp [*]; done)), H', ⟨by have := HK1.out; have := HJ5.out; have := HJ7.out; have := HK4.out; omega⟩, ⟨by (with_reducible repeat (first | apply Kd.R_alloc | apply Kd.R_drewN | apply Kd.R_drew)); exact HO150.out⟩, ⟨by repeat (first | (with_reducible first | exact HB.out | apply below_alloc | apply pw_below_drewN | apply below_drew1) | exact HB.out)⟩⟩
                                · rw [if_neg c20] at H
                                  exact absurd H (by simp)
                              · rw [if_neg c18] at H
                                exact absurd H (by simp)
                            · rw [if_neg c16] at H
                              have c16b0 : decide (0 < x6_4) = false := decide_eq_false c16
                              clear c16
                              have H' := Aside0.mk H
                              clear H
                              go_wp2
                              go_roundg k4
                              case measure => have := HK1.out; have := HJ5.out; have := HJ7.out; have := HK4.out; omega
                              case rel => exact ⟨(x3_4), (wrap64 (x10_1 + 1)), (by first | rfl | (simp; done) | (simp [*]; done)), H', ⟨by have := HK1.out; have := HJ5.out; have := HJ7.out; have := HK4.out; omega⟩, ⟨by (with_reducible repeat (first | apply Kd.R_alloc | apply Kd.R_drewN | apply Kd.R_drew)); exact HO_3.out⟩, ⟨by repeat (first | (with_reducible first | exact HB.out | apply below_alloc | apply pw_below_drewN | apply below_drew1) | exact HB.out)⟩⟩
                      · rw [if_neg c14] at H
                        exact absurd H (by simp)
                    · rw [if_neg c12] at H
                      exact absurd H (by simp)
          · rw [if_neg c4] at H
            exact absurd H (by simp)
        · rw [if_neg c3] at H
          exact absurd H (by simp)
      · rw [if_neg c2] at H
        have c2b0 : decide (x10_1 < (l0.length : Int)) = false := decide_eq_false c2
        clear c2
        obtain rfl := Option.some.inj H
        go_wp2
        go_ret
        exact ⟨_, by first | rfl | (simp [errW_none, errW_some] <;> rfl) | (simp [*, errW_none, errW_some] <;> rfl) | (cases hz_ : t213.toList <;> simp [hz_, errW_none, errW_some]), by (with_reducible repeat (first | apply Kd.R_alloc | apply Kd.R_drewN | apply Kd.R_drew)); exact HO_3.out, by repeat (first | (with_reducible first | exact HB.out | apply below_alloc | apply pw_below_drewN | apply below_drew1) | exact HB.out)⟩

-- NOT PRINTED: function 47 (key_Bytes)

/-! ### prolepsislaw22_Of: function 48 -/
def prolepsislaw22_Of.f (a0_0 : Int) (a0_1 : Int) : Option (Int × Int) := some (a0_0, wrap64 (a0_1))
set_option maxHeartbeats 8000000 in
set_option maxRecDepth 100000 in
theorem prolepsislaw22_Of.calls (a0_0 : Int) (a0_1 : Int) (r1 : Int) (r2 : Int) (w : World) (h : prolepsislaw22_Of.f a0_0 a0_1 = some (r1, r2)) :
    Calls Try.prog 48 #[.agg #[.int .i64 a0_0, .int .i32 a0_1]] w fun e w' => e = .returned (.agg #[.int .i64 r1, .int .i64 r2]) ∧ Below w.heap.size w w' := by
  have hu70 := Try.underlying70
  have hu75 := Try.underlying75
  have HB := Aside0.mk (Below.refl w.heap.size w)
  have H : (some (a0_0, wrap64 (a0_1))) = some (r1, r2) := h
  clear h
  simp only [Option.some.injEq, Prod.mk.injEq] at H
  obtain ⟨rfl, rfl⟩ := H
  go_enter Try.func48, Try.ntmps48
  go_wp2_with (first | ((with_reducible refine gate_dst (N := 1) rfl ?_); refine box_event ?hg (N := 1) ?hd (cs := #[.int .i64 a0_0, .int .i32 a0_1]) (t := 70) ?hr ?_; (case hd => rfl); (case hg => rfl); (case hr => first | (go_simp; done) | (go_simp; rfl)); intro gb159 hg w2 hbox hb; have n0_ := Aside0.mk (below_step (by repeat (first | (with_reducible first | exact HB.out | apply below_alloc | apply pw_below_drewN | apply below_drew1) | exact HB.out)) hb); have n1_ := Aside0.mk (hbox); have n2_ := Aside0.mk ((by rw [hg]; exact (below_size (by repeat (first | (with_reducible first | exact HB.out | apply below_alloc | apply pw_below_drewN | apply below_drew1) | exact HB.out))) : w.heap.size ≤ gb159)); have n3_ := Aside0.mk ((by rw [hg]; exact (below_size (by repeat (first | (with_reducible first | exact HB.out | apply below_alloc | apply pw_below_drewN | apply below_drew1) | exact HB.out))) : w.heap.size ≤ gb159)); clear HB; have HB := n0_; have BK159 := n1_; have GW159 := n2_; have GE159 := n3_; clear n0_ n1_ n2_ n3_; clear hb hbox hg) | ((with_reducible refine gate_dst (N := 2) rfl ?_); refine box_event ?hg (N := 2) ?hd (cs := #[.int .i64 0, .int .i64 0]) (t := 75) ?hr ?_; (case hd => rfl); (case hg => rfl); (case hr => first | (go_simp; done) | (go_simp; rfl)); intro gb160 hg w3 hbox hb; have n0_ := Aside0.mk (blk_below (g := gb159) (o := .cells #[.int .i64 a0_0, .int .i32 a0_1] 70 (0, 0)) (by (with_reducible repeat (first | refine blk_drewN ?_ _ | refine blk_drew ?_ | refine blk_alloc ?_ _)); exact BK159.out) hb); have n1_ := Aside0.mk (below_step (by repeat (first | (with_reducible first | exact HB.out | apply below_alloc | apply pw_below_drewN | apply below_drew1 | refine below_set ?_ GE159.out) | exact HB.out)) hb); have n2_ := Aside0.mk (hbox); have n3_ := Aside0.mk ((by rw [hg]; exact (below_size (by repeat (first | (with_reducible first | exact HB.out | apply below_alloc | apply pw_below_drewN | apply below_drew1 | refine below_set ?_ GE159.out) | exact HB.out))) : w.heap.size ≤ gb160)); have n4_ := Aside0.mk ((by rw [hg]; exact (below_size (by repeat (first | (with_reducible first | exact HB.out | apply below_alloc | apply pw_below_drewN | apply below_drew1 | refine below_set ?_ GE159.out) | exact HB.out))) : w.heap.size ≤ gb160)); have n5_ := Aside0.mk ((by rw [hg]; exact Nat.ne_of_lt (blk_lt (g := gb159) (o := .cells #[.int .i64 a0_0, .int .i32 a0_1] 70 (0, 0)) (by (with_reducible repeat (first | refine blk_drewN ?_ _ | refine blk_drew ?_ | refine blk_alloc ?_ _)); exact BK159.out)) : gb159 ≠ gb160)); have n6_ := Aside0.mk ((by rw [hg]; exact Nat.ne_of_gt (blk_lt (g := gb159) (o := .cells #[.int .i64 a0_0, .int .i32 a0_1] 70 (0, 0)) (by (with_reducible repeat (first | refine blk_drewN ?_ _ | refine blk_drew ?_ | refine blk_alloc ?_ _)); exact BK159.out)) : gb160 ≠ gb159)); clear BK159; clear HB; have BK159 := n0_; have HB := n1_; have BK160 := n2_; have GW160 := n3_; have GE160 := n4_; have NB159_160 := n5_; have NB160_159 := n6_; clear n0_ n1_ n2_ n3_ n4_ n5_ n6_; clear hb hbox hg; have hnb4 := NB159_160.out; have hnc4 := NB160_159.out; have hcz5_0 : w3.cell? ⟨gb159, 0, none⟩ = some (.int .i64 a0_0) := (blk_cell BK159.out 0).trans rfl; have hcz5_1 : w3.cell? ⟨gb159, 1, none⟩ = some (.int .i32 a0_1) := (blk_cell BK159.out 1).trans rfl; have hfz5_0 := blk_frozen BK159.out 0; have hfz5_1 := blk_frozen BK159.out 1; have hcz6_0 : w3.cell? ⟨gb160, 0, none⟩ = some (.int .i64 0) := (blk_cell BK160.out 0).trans rfl; have hcz6_1 : w3.cell? ⟨gb160, 1, none⟩ = some (.int .i64 0) := (blk_cell BK160.out 1).trans rfl; have hfz6_0 := blk_frozen BK160.out 0; have hfz6_1 := blk_frozen BK160.out 1))
  refine bodyPost_ret (results_cell_row rfl _ _ gb160 75 #[.int .i64 a0_0, .int .i64 (wrap64 (a0_1))] (0, 0) _ rfl (by (with_reducible repeat (first | refine blk_drewN ?_ _ | refine blk_drew ?_ | refine blk_alloc ?_ _)); refine blk_put (cs := #[.int .i64 a0_0, .int .i64 0]) ?_ 1 _ rfl; (with_reducible repeat (first | refine blk_drewN ?_ _ | refine blk_drew ?_ | refine blk_alloc ?_ _)); refine blk_put (cs := #[.int .i64 0, .int .i64 0]) ?_ 0 _ rfl; (with_reducible repeat (first | refine blk_drewN ?_ _ | refine blk_drew ?_ | refine blk_alloc ?_ _)); exact BK160.out) Try.underlying75 rfl (by kernel_rfl)) rfl ?_
  exact ⟨by first | rfl | (simp [errW_none, errW_some] <;> rfl) | (simp [*, errW_none, errW_some] <;> rfl) | (cases hz_ : t213.toList <;> simp [hz_, errW_none, errW_some]), by repeat (first | (with_reducible first | exact HB.out | apply below_alloc | apply pw_below_drewN | apply below_drew1 | refine below_set ?_ GE159.out | refine below_set ?_ GE160.out) | exact HB.out)⟩

/-! ### prolepsisref02_Scalar: function 30 -/
def prolepsisref02_Scalar.f (a0 : Int) : Option (Bool) := if a0 ≥ 0 then (if a0 ≤ 1114111 then (if a0 < 55296 then (some true) else (some (decide (a0 > 57343)))) else (some false)) else (some false)
set_option maxHeartbeats 8000000 in
set_option maxRecDepth 100000 in
theorem prolepsisref02_Scalar.calls (a0 : Int) (r : Bool) (w : World) (h : prolepsisref02_Scalar.f a0 = some r) :
    Calls Try.prog 30 #[.int .i64 a0] w fun e w' => e = .returned (.bool r) ∧ Drawn0 w w' := by
  have H : (if a0 ≥ 0 then (if a0 ≤ 1114111 then (if a0 < 55296 then (some true) else (some (decide (a0 > 57343)))) else (some false)) else (some false)) = some r := h
  clear h
  by_cases c2 : a0 ≥ 0
  · rw [if_pos c2] at H
    have c2b0 : decide (0 ≤ a0) = true := decide_eq_true c2
    clear c2
    by_cases c3 : a0 ≤ 1114111
    · rw [if_pos c3] at H
      have c3b0 : decide (a0 ≤ 1114111) = true := decide_eq_true c3
      clear c3
      by_cases c4 : a0 < 55296
      · rw [if_pos c4] at H
        have c4b0 : decide (a0 < 55296) = true := decide_eq_true c4
        clear c4
        obtain rfl := Option.some.inj H
        go_enter Try.func30, Try.ntmps30
        go_wp2
        go_ret
        exact ⟨by first | rfl | (simp; done) | (simp [*]; done), by repeat (first | exact Drawn0.refl _ | apply Drawn0.step)⟩
      · rw [if_neg c4] at H
        have c4b0 : decide (a0 < 55296) = false := decide_eq_false c4
        clear c4
        obtain rfl := Option.some.inj H
        go_enter Try.func30, Try.ntmps30
        go_wp2
        go_ret
        exact ⟨by first | rfl | (simp; done) | (simp [*]; done), by repeat (first | exact Drawn0.refl _ | apply Drawn0.step)⟩
    · rw [if_neg c3] at H
      have c3b0 : decide (a0 ≤ 1114111) = false := decide_eq_false c3
      clear c3
      obtain rfl := Option.some.inj H
      go_enter Try.func30, Try.ntmps30
      go_wp2
      go_ret
      exact ⟨by first | rfl | (simp; done) | (simp [*]; done), by repeat (first | exact Drawn0.refl _ | apply Drawn0.step)⟩
  · rw [if_neg c2] at H
    have c2b0 : decide (0 ≤ a0) = false := decide_eq_false c2
    clear c2
    obtain rfl := Option.some.inj H
    go_enter Try.func30, Try.ntmps30
    go_wp2
    go_ret
    exact ⟨by first | rfl | (simp; done) | (simp [*]; done), by repeat (first | exact Drawn0.refl _ | apply Drawn0.step)⟩

/-! ### prolepsisref03_in: function 60 -/
def prolepsisref03_in.l0 : Nat → Int → List Int → Int → Option (Bool)
  | 0, _, _, _ => none
  | k + 1, x0, x1, x5 => if (wrap64 (x5 + 1)) < (x1.length : Int) then (if 0 ≤ x5 then (if x5 < (x1.length : Int) then (if x0 ≥ (rd x1 x5) then (if 0 ≤ (wrap64 (x5 + 1)) then (if x0 ≤ (rd x1 (wrap64 (x5 + 1))) then (some true) else (prolepsisref03_in.l0 k x0 x1 (wrap64 (x5 + 2)))) else (none)) else (prolepsisref03_in.l0 k x0 x1 (wrap64 (x5 + 2)))) else (none)) else (none)) else (some false)
def prolepsisref03_in.f (k : Nat) (a0 : Int) (l1 : List Int) : Option (Bool) := prolepsisref03_in.l0 k a0 l1 0
theorem prolepsisref03_in.mono_l : ∀ k, (∀ y0 y1 y2, LeO (prolepsisref03_in.l0 k y0 y1 y2) (prolepsisref03_in.l0 (k + 1) y0 y1 y2))
  | 0 => fun _ _ _ r h => by simp [prolepsisref03_in.l0] at h
  | k + 1 => by
    have ih0 := prolepsisref03_in.mono_l k
    · intro y0 y1 y2
      unfold prolepsisref03_in.l0
      repeat' first
      | (with_reducible exact ih0 _ _ _)
      | (with_reducible exact LeO.refl _)
      | (with_reducible exact LeO.none _)
      | (with_reducible refine LeO.ite ?_ ?_)
      | (with_reducible refine LeO.bind ?_ (fun _ => ?_))
      | exact ih0 _ _ _
      | exact LeO.none _
      | refine LeO.ite ?_ ?_
      | refine LeO.bind ?_ (fun _ => ?_)
theorem prolepsisref03_in.mono : ∀ a0 a1 k, LeO (prolepsisref03_in.f k a0 a1) (prolepsisref03_in.f (k + 1) a0 a1) := by
  intro a0 a1 k
  have ih0 := prolepsisref03_in.mono_l k
  unfold prolepsisref03_in.f
  repeat' first
      | (with_reducible exact ih0 _ _ _)
      | (with_reducible exact LeO.refl _)
      | (with_reducible exact LeO.none _)
      | (with_reducible refine LeO.ite ?_ ?_)
      | (with_reducible refine LeO.bind ?_ (fun _ => ?_))
      | exact ih0 _ _ _
      | exact LeO.none _
      | refine LeO.ite ?_ ?_
      | refine LeO.bind ?_ (fun _ => ?_)
set_option maxHeartbeats 8000000 in
set_option maxRecDepth 100000 in
theorem prolepsisref03_in.calls (k : Nat) (a0 : Int) (A1 : Option Addr) (c1 : Nat) (l1 : List Int) (r : Bool) (w : World) (hr1 : Kd.C (Kd.int .i64) w A1 l1.length l1) (hc1 : l1.length ≤ c1) (h : prolepsisref03_in.f k a0 l1 = some r) :
    Calls Try.prog 60 #[.int .i64 a0, .slice A1 l1.length c1] w fun e w' => e = .returned (.bool r) ∧ Drawn0 w w' := by
  have HR1 := Aside0.mk hr1
  have HC1 := Aside0.mk hc1
  clear hr1 hc1
  have H : (prolepsisref03_in.l0 k a0 l1 0) = some r := h
  clear h
  have H' := Aside0.mk H
  clear H
  go_enter Try.func60, Try.ntmps60
  go_wp2
  go_loopg [5] k (fun kq v5 w' => ∃ (x5_1 : Int), v5 = .int .i64 x5_1 ∧ Aside0 (prolepsisref03_in.l0 kq a0 l1 x5_1 = some r) ∧ Aside0 (kq ≤ k) ∧ Drawn0 w w')
  case atStart => exact ⟨(0), (by first | rfl | (simp; done) | (simp [*]; done)), H', ⟨Nat.le_refl _⟩, by repeat (first | exact Drawn0.refl _ | apply Drawn0.step)⟩
  case round =>
    clear H'
    try clear c1
    try clear p2
    obtain ⟨x5_1, rfl, HA, HK1, ⟨m1, rfl⟩⟩ := hrel
    cases gk with
    | zero => exact absurd HA.out (by simp [prolepsisref03_in.l0])
    | succ k1 =>
      have H := HA.out
      clear HA
      simp only [prolepsisref03_in.l0] at H
      by_cases c3 : (wrap64 (x5_1 + 1)) < (l1.length : Int)
      · rw [if_pos c3] at H
        have c3b0 : decide ((wrap64 (x5_1 + 1)) < (l1.length : Int)) = true := decide_eq_true c3
        clear c3
        by_cases c4 : 0 ≤ x5_1
        · rw [if_pos c4] at H
          have c4b0 : decide (0 ≤ x5_1) = true := decide_eq_true c4
          clear c4
          by_cases c5 : x5_1 < (l1.length : Int)
          · rw [if_pos c5] at H
            have c5b0 : decide (x5_1 < (l1.length : Int)) = true := decide_eq_true c5
            clear c5
            by_cases c6 : a0 ≥ (rd l1 x5_1)
            · rw [if_pos c6] at H
              have c6b0 : decide ((rd l1 x5_1) ≤ a0) = true := decide_eq_true c6
              clear c6
              obtain ⟨ji7, hji7⟩ : ∃ j_ : Int, (wrap64 (x5_1 + 1)) = j_ := ⟨_, rfl⟩
              replace H : (if 0 ≤ (ji7) then (if a0 ≤ (rd l1 (ji7)) then (some true) else (prolepsisref03_in.l0 k1 a0 l1 (wrap64 (x5_1 + 2)))) else (none)) = some r := by first | (rw [hji7] at H; exact H) | (simp only [hji7] at H ⊢; exact H)
              (try rw [hji7] at c3b0)
              have hji7w : (IntKind.i64.wrap (x5_1 + 1)) = ji7 := (i64_w _).trans hji7
              by_cases c8 : 0 ≤ (ji7)
              · rw [if_pos c8] at H
                have c8b0 : decide (0 ≤ (ji7)) = true := decide_eq_true c8
                clear c8
                by_cases c9 : a0 ≤ (rd l1 (ji7))
                · rw [if_pos c9] at H
                  have c9b0 : decide (a0 ≤ (rd l1 (ji7))) = true := decide_eq_true c9
                  clear c9
                  obtain rfl := Option.some.inj H
                  have p161 : 0 ≤ (x5_1 : Int) := of_decide_eq_true (by first | (with_reducible assumption) | assumption)
                  have q161 : x5_1 < (l1.length : Int) := of_decide_eq_true (by first | (with_reducible assumption) | assumption)
                  obtain ⟨ad161, e161, hx161_0⟩ := Kd.at_int HR1.out x5_1 p161 q161
                  cases e161
                  replace p161 := eq_true p161
                  replace q161 := eq_true q161
                  have p162 : 0 ≤ ((ji7) : Int) := of_decide_eq_true (by first | (with_reducible assumption) | assumption)
                  have q162 : (ji7) < (l1.length : Int) := of_decide_eq_true (by first | (with_reducible assumption) | assumption)
                  obtain ⟨ad162, e162, hx162_0⟩ := Kd.at_int HR1.out (ji7) p162 q162
                  obtain rfl : ad161 = ad162 := (by injection e162)
                  replace p162 := eq_true p162
                  replace q162 := eq_true q162
                  go_wp2
                  go_ret
                  exact ⟨by first | rfl | (simp; done) | (simp only [← hji7] <;> (first | rfl | simp)) | (simp [*]; done), by repeat (first | exact Drawn0.refl _ | apply Drawn0.step)⟩
                · rw [if_neg c9] at H
                  have c9b0 : decide (a0 ≤ (rd l1 (ji7))) = false := decide_eq_false c9
                  clear c9
                  have H' := Aside0.mk H
                  clear H
                  have p161 : 0 ≤ (x5_1 : Int) := of_decide_eq_true (by first | (with_reducible assumption) | assumption)
                  have q161 : x5_1 < (l1.length : Int) := of_decide_eq_true (by first | (with_reducible assumption) | assumption)
                  obtain ⟨ad161, e161, hx161_0⟩ := Kd.at_int HR1.out x5_1 p161 q161
                  cases e161
                  replace p161 := eq_true p161
                  replace q161 := eq_true q161
                  have p162 : 0 ≤ ((ji7) : Int) := of_decide_eq_true (by first | (with_reducible assumption) | assumption)
                  have q162 : (ji7) < (l1.length : Int) := of_decide_eq_true (by first | (with_reducible assumption) | assumption)
                  obtain ⟨ad162, e162, hx162_0⟩ := Kd.at_int HR1.out (ji7) p162 q162
                  obtain rfl : ad161 = ad162 := (by injection e162)
                  replace p162 := eq_true p162
                  replace q162 := eq_true q162
                  go_wp2
                  go_roundg k1
                  case measure => have := HK1.out; omega
                  case rel => exact ⟨(wrap64 (x5_1 + 2)), (by first | rfl | (simp; done) | (simp [*]; done)), H', ⟨by have := HK1.out; omega⟩, by repeat (first | exact Drawn0.refl _ | apply Drawn0.step)⟩
              · rw [if_neg c8] at H
                exact absurd H (by simp)
            · rw [if_neg c6] at H
              have c6b0 : decide ((rd l1 x5_1) ≤ a0) = false := decide_eq_false c6
              clear c6
              have H' := Aside0.mk H
              clear H
              have p161 : 0 ≤ (x5_1 : Int) := of_decide_eq_true (by first | (with_reducible assumption) | assumption)
              have q161 : x5_1 < (l1.length : Int) := of_decide_eq_true (by first | (with_reducible assumption) | assumption)
              obtain ⟨ad161, e161, hx161_0⟩ := Kd.at_int HR1.out x5_1 p161 q161
              cases e161
              replace p161 := eq_true p161
              replace q161 := eq_true q161
              go_wp2
              go_roundg k1
              case measure => have := HK1.out; omega
              case rel => exact ⟨(wrap64 (x5_1 + 2)), (by first | rfl | (simp; done) | (simp [*]; done)), H', ⟨by have := HK1.out; omega⟩, by repeat (first | exact Drawn0.refl _ | apply Drawn0.step)⟩
          · rw [if_neg c5] at H
            exact absurd H (by simp)
        · rw [if_neg c4] at H
          exact absurd H (by simp)
      · rw [if_neg c3] at H
        have c3b0 : decide ((wrap64 (x5_1 + 1)) < (l1.length : Int)) = false := decide_eq_false c3
        clear c3
        obtain rfl := Option.some.inj H
        go_wp2
        go_ret
        exact ⟨by first | rfl | (simp; done) | (simp [*]; done), by repeat (first | exact Drawn0.refl _ | apply Drawn0.step)⟩

end Go.Proofs.Ytglcopljhanhmaa.PKeyBytes
