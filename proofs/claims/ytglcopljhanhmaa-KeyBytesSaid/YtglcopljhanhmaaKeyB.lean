/- key.Split: the walk. (printed by wip/gen/keyb.py) -/
import Derived.Test.YtglcopljhanhmaaKeyA
import Derived.Test.YtglcopljhanhmaaUtfG
namespace Go.Proofs.Ytglcopljhanhmaa
open Go.RowKit Go.Proofs.YtglcopljhanhmaaW.PrintWords Go.Proofs.YtglcopljhanhmaaW.PrintLast Go.Proofs.YtglcopljhanhmaaW.PrintMore
set_option linter.unusedVariables false
set_option linter.unusedSimpArgs false
theorem str_beq {a b : List Int} (ha : In8u a) (hb : In8u b) : (strOfNums a == strOfNums b) = decide (a = b) := by
  have q : (strOfNums a == strOfNums b) = ((strOfNums a).data == (strOfNums b).data) := rfl
  rw [q]
  by_cases h : a = b
  · subst h; simp
  · rw [decide_eq_false h, beq_eq_false_iff_ne]
    intro e
    have := str_inj ha hb
    rw [show strOfNums a = strOfNums b from by cases hx : strOfNums a; cases hy : strOfNums b; rw [hx, hy] at e; dsimp only at e; rw [e]] at this
    simp [h] at this
theorem kind_str {l : List Int} (h : In8u l) : kindS (strOfNums l) = kindZ l := by
  have q : ∀ (b : List Int), In8u b → (strOfNums l == strOfNums b) = decide (l = b) := fun b hb => str_beq h hb
  have e1 := q [8] (by intro x hx; simp at hx; omega)
  have e2 := q [27, 91, 68] (by intro x hx; simp at hx; omega)
  have e3 := q [27, 91, 67] (by intro x hx; simp at hx; omega)
  have e4 := q [27, 91, 65] (by intro x hx; simp at hx; omega)
  have e5 := q [27, 91, 66] (by intro x hx; simp at hx; omega)
  have e6 := q [13] (by intro x hx; simp at hx; omega)
  unfold kindS kindZ
  rw [show (⟨#[8]⟩ : ByteArray) = strOfNums [8] from rfl, show (⟨#[27, 91, 68]⟩ : ByteArray) = strOfNums [27, 91, 68] from rfl, show (⟨#[27, 91, 67]⟩ : ByteArray) = strOfNums [27, 91, 67] from rfl, show (⟨#[27, 91, 65]⟩ : ByteArray) = strOfNums [27, 91, 65] from rfl, show (⟨#[27, 91, 66]⟩ : ByteArray) = strOfNums [27, 91, 66] from rfl, show (⟨#[13]⟩ : ByteArray) = strOfNums [13] from rfl, e1, e2, e3, e4, e5, e6]
  simp only [decide_eq_true_eq]
theorem parse_more (l : List Int) (h : (parseZ l).2.2 = true) : parseZ l = (0, 0, true) := by
  match l with
  | [] => rfl
  | a :: t =>
    simp only [parseZ] at h ⊢
    by_cases h1 : a < 128
    · rw [if_pos h1] at h; simp at h
    rw [if_neg h1] at h ⊢
    by_cases h2 : a < 194 ∨ 244 < a
    · rw [if_pos h2] at h; simp at h
    rw [if_neg h2] at h ⊢
    match t with
    | [] => rfl
    | b :: t =>
      dsimp only at h ⊢
      by_cases h3 : two a b = false
      · rw [if_pos h3] at h; simp at h
      rw [if_neg h3] at h ⊢
      by_cases h4 : a < 224
      · rw [if_pos h4] at h; simp at h
      rw [if_neg h4] at h ⊢
      match t with
      | [] => rfl
      | c :: t =>
        dsimp only at h ⊢
        by_cases h5 : cont c = false
        · rw [if_pos h5] at h; simp at h
        rw [if_neg h5] at h ⊢
        by_cases h6 : a < 240
        · rw [if_pos h6] at h; simp at h
        rw [if_neg h6] at h ⊢
        match t with
        | [] => rfl
        | d :: t =>
          dsimp only at h ⊢
          by_cases h7 : cont d = false
          · rw [if_pos h7] at h; simp at h
          rw [if_neg h7] at h; simp at h
/-- The first scalar, and how many bytes it has. -/
def firstK (l : List Int) : Int × Int := if l = [] then (0, 0) else ((parseZ l).1, (parseZ l).2.1)
theorem parse_k (l : List Int) : (parseZ l).2.1 = 0 ∨ (1 ≤ (parseZ l).2.1 ∧ (parseZ l).2.1 ≤ l.length) := by
  match l with
  | [] => exact .inl rfl
  | a :: t =>
    by_cases h : (parseZ (a :: t)).2.2 = true
    · left
      rw [parse_more _ h]
    · exact .inr (parseZ_pos a t (Bool.eq_false_iff.2 h))
/-- How many bytes the first key has. -/
def cutK (l : List Int) : Nat := if 3 ≤ l.length ∧ kindZ (l.take 3) ≠ 0 then 3 else if 0 < (firstK l).2 then (firstK l).2.toNat else l.length
def splitK : Nat → List Int → List (List Int)
  | 0, _ => []
  | _, [] => []
  | n + 1, l => l.take (cutK l) :: splitK n (l.drop (cutK l))
def splitZ (l : List Int) : List (List Int) := splitK l.length l
theorem cutK_pos {l : List Int} (h : l ≠ []) : 1 ≤ cutK l ∧ cutK l ≤ l.length := by
  have hp := List.length_pos_iff.2 h
  have := parse_k l
  unfold cutK firstK
  rw [if_neg h]
  split
  · omega
  · split <;> (dsimp only at *; omega)
theorem splitK_len : ∀ (n m : Nat) (l : List Int), l.length ≤ n → l.length ≤ m → splitK n l = splitK m l := by
  intro n
  induction n with
  | zero =>
    intro m l hn hm
    have : l = [] := List.eq_nil_of_length_eq_zero (by omega)
    subst this
    cases m <;> rfl
  | succ n ih =>
    intro m l hn hm
    match l with
    | [] => cases m <;> rfl
    | a :: t =>
      obtain ⟨m, rfl⟩ : ∃ k, m = k + 1 := ⟨m - 1, by simp at hm; omega⟩
      have hp := cutK_pos (l := a :: t) (by simp)
      rw [splitK, splitK]
      · rw [ih m _ (by rw [List.length_drop]; omega) (by rw [List.length_drop]; omega)]
      · simp
      · simp
theorem splitZ_nil : splitZ [] = [] := rfl
theorem splitZ_cons {l : List Int} (h : l ≠ []) : splitZ l = l.take (cutK l) :: splitZ (l.drop (cutK l)) := by
  match l, h with
  | a :: t, h =>
    have hp := cutK_pos h
    unfold splitZ
    rw [List.length_cons, splitK]
    · rw [splitK_len t.length ((a :: t).drop (cutK (a :: t))).length _ (by rw [List.length_drop, List.length_cons]; omega) (Nat.le_refl _)]
    · simp
theorem infoBs : (Try.prog.info? 22).map (fun i => (i.zero, i.size, i.bytes)) = some (some (.slice none 0 0), 1, 24) := by kernel_rfl
theorem info5k : (Try.prog.info? 5).map (fun i => (i.zero, i.size, i.bytes)) = some (some (.int .u8 0), 1, 1) := by kernel_rfl
set_option maxHeartbeats 8000000 in
set_option maxRecDepth 100000 in
theorem Split_walk (hF : ∀ (A : Option Addr) (c : Nat) (l : List Int) (w : World), (Kd.int .u8).C w A l.length l → l.length ≤ c → In8u l → l.length ≤ 1000 →
      Calls Try.prog 14 #[.slice A l.length c] w fun e w' => e = .returned (.tuple #[.int .i32 (firstK l).1, .int .i64 (firstK l).2]) ∧ Below w.heap.size w w')
    (A : Option Addr) (c : Nat) (l : List Int) (w : World) (hC : (Kd.int .u8).C w A l.length l) (hc : l.length ≤ c) (h8 : In8u l) (hlen : l.length ≤ 1000) :
    Calls Try.prog 43 #[.slice A l.length c] w fun e w' => ∃ v, e = .returned v ∧ Kd.S (Kd.slice 5 (Kd.int .u8)) 22 w' w.heap.size (fun _ => True) v (splitZ l) ∧ Below w.heap.size w w' := by
  have HF := Aside0.mk hF
  have HC := Aside0.mk hC
  have H8 := Aside0.mk h8
  have HN := Aside0.mk (And.intro hc hlen)
  clear hF hC hc h8 hlen
  go_enter Try.func43, Try.ntmps43
  go_wp2
  go_loopg [0, 3] (l.length + 1) (fun kq v0 v3 w' => ∃ (A1 : Option Addr) (c1 : Nat) (L : List Int) (out : List (List Int)), v0 = .slice A1 L.length c1 ∧ Aside0 (kq = L.length + 1) ∧ Aside0 (L.length ≤ c1 ∧ L.length ≤ 1000 ∧ out.length + L.length ≤ 1000) ∧ Aside0 (Kd.C (Kd.int .u8) w A1 L.length L) ∧ Aside0 (In8u L) ∧ Aside0 (splitZ l = out ++ splitZ L) ∧ Aside0 (Kd.S (Kd.slice 5 (Kd.int .u8)) 22 w' w.heap.size (fun _ => True) v3 out) ∧ Aside0 (Below w.heap.size w w'))
  case atStart => exact ⟨A, c, l, [], rfl, ⟨rfl⟩, ⟨HN.out.1, HN.out.2, by simpa using HN.out.2⟩, HC, H8, ⟨by simp⟩, ⟨Kd.S_nil _ _ _ _ _⟩, ⟨Below.refl _ _⟩⟩
  case round =>
    obtain ⟨A1, c1, L, out, rfl, HK, HL, HR, H8L, HZ, HO, HB⟩ := hrel
    by_cases hL : L = []
    · subst hL
      have HE := Aside0.mk (show splitZ l = out by have := HZ.out; rw [splitZ_nil, List.append_nil] at this; exact this)
      go_wp2
      all_goals go_ret
      all_goals exact ⟨_, rfl, by rw [HE.out]; exact HO.out, HB.out⟩
    · have hpos := List.length_pos_iff.2 hL
      have hcp := cutK_pos hL
      have hZ2 := splitZ_cons hL
      have hpk := parse_k L
      have hfk : firstK L = ((parseZ L).1, (parseZ L).2.1) := by unfold firstK; rw [if_neg hL]
      obtain ⟨r, k, hrk⟩ : ∃ r k, firstK L = (r, k) := ⟨_, _, rfl⟩
      rw [hrk] at hfk
      injection hfk with hf1 hf2
      rw [← hf2] at hpk
      have hF1 := fun (W : World) (hb : Below w.heap.size w W) => HF.out A1 c1 L W (Kd.C_below HR.out hb) HL.out.1 H8L.out HL.out.2.1
      rw [hrk] at hF1
      have HF1 := Aside0.mk hF1
      obtain ⟨n, hn⟩ : ∃ n, cutK L = n := ⟨_, rfl⟩
      have hcut := hn
      unfold cutK at hcut
      rw [hrk] at hcut
      dsimp only at hcut
      rw [hn] at hcp hZ2
      obtain ⟨hcT, hrT, hlT⟩ := cut_take (P := Try.prog) (Kd.int .u8) 22 5 .i64 Try.underlying22 info5k A1 c1 L (n : Int) (by omega) (by omega) HL.out.1
      obtain ⟨A2, hcD, hrD, hlD⟩ := cut_drop (P := Try.prog) (Kd.int .u8) 22 5 .i64 Try.underlying22 info5k A1 c1 L (n : Int) (by omega) (by omega) HL.out.1
      have hRT := hrT w HR.out
      have hRD := hrD w HR.out
      simp only [Int.toNat_natCast] at hcT hRT hlT hcD hRD hlD
      have hDL : (L.drop n).length + n = L.length := by rw [List.length_drop]; omega
      have h8D : In8u (L.drop n) := fun x hx => H8L.out x (List.mem_of_mem_drop hx)
      obtain ⟨T, hT⟩ : ∃ T, L.take n = T := ⟨_, rfl⟩
      obtain ⟨D, hD⟩ : ∃ D, L.drop n = D := ⟨_, rfl⟩
      have hTL : T.length = n := by rw [← hT, List.length_take]; omega
      rw [hT] at hcT hRT hlT hZ2
      rw [hD] at hcD hRD hlD hDL h8D hZ2
      have HTT := Aside0.mk hT
      have HRT := Aside0.mk hRT
      have HRD := Aside0.mk hRD
      have HTL := Aside0.mk (And.intro hTL (And.intro hlT (And.intro hlD hDL)))
      have HZ2 := Aside0.mk hZ2
      have H8D := Aside0.mk h8D
      have HCP := Aside0.mk hcp
      clear hrT hrD hRT hRD hTL hlT hlD hDL hZ2 h8D hF1 hT hD hrk hf1 hf2 hn hL
      by_cases h3 : 3 ≤ L.length
      · obtain ⟨hc3, hr3, hl3⟩ := cut_take (P := Try.prog) (Kd.int .u8) 22 5 .i64 Try.underlying22 info5k A1 c1 L ((3 : Nat) : Int) (by omega) (by omega) HL.out.1
        have hR3 := hr3 w HR.out
        simp only [Int.toNat_natCast] at hc3 hR3 hl3
        obtain ⟨K3, hK3⟩ : ∃ K3, L.take 3 = K3 := ⟨_, rfl⟩
        have h83 : In8u K3 := by rw [← hK3]; exact fun x hx => H8L.out x (List.mem_of_mem_take hx)
        rw [hK3] at hc3 hR3 hl3 hcut
        obtain ⟨s3, hs3⟩ : ∃ s, strOfNums K3 = s := ⟨_, rfl⟩
        have hcv : ∀ W, Below w.heap.size w W → (Go.convert 22 9 (.slice A1 K3.length c1)).run Try.prog W = .ok (.string s3) W := fun W hb => by
          have := Kd.C_string (P := Try.prog) (c := c1) Try.underlying22 Try.underlying5 Try.underlying9 (Kd.C_below hR3 hb)
          rw [hs3] at this
          exact this
        have HS3 := Aside0.mk (show kindS s3 = kindZ K3 by rw [← hs3]; exact kind_str h83)
        have hT3 : decide ((L.length : Int) ≥ 3) = true := decide_eq_true (by omega)
        have hc3' : ∀ W : World, (Instr.slice 22 (.slice A1 L.length c1) none (some (.int .i64 3)) none).run Try.prog W = .ok (.slice A1 K3.length c1) W := hc3
        have HK3 := Aside0.mk hK3
        clear hc3 hr3 hR3 hK3 h83 hs3
        by_cases hk : 0 < k
        · have hTk : decide (k > 0) = true := decide_eq_true hk
          by_cases hz : kindZ K3 = 0
          · have hTz : (kindZ K3 != 0) = false := by rw [hz]; rfl
            obtain rfl : n = k.toNat := by rw [← hcut, if_neg (by rw [hz]; simp), if_pos hk]
            have hkn : ((k.toNat : Nat) : Int) = k := by omega
            rw [hkn] at hcT hcD
            go_wp2_with (first | (go_at_call 14; refine (HF1.out _ HB.out).mono ?_; rintro e w2 ⟨rfl, hb⟩; have HB2 := Aside0.mk (below_then HB.out HB.out.size hb); have HO2 := Aside0.mk (Kd.S_below HO.out hb); clear hb))
            refine start_ (n := 6) (S := fun w' => (Go.convert 22 9 (.slice A1 K3.length c1)).run Try.prog w' = .ok (.string s3) w') (ds := [4]) #[false, false, false, false, false, false] (by kernel_rfl) rfl rfl ((hcv w2.drew (below_drew HB2.out))) (fun hHeld => ?_)
            refine pure_ (i := 1) (N := some 25) (v := ?_) (a' := ?_) #[false, true, false, false, false, false] rfl rfl (by kernel_rfl) (fun _ _ _ h => h) (Or.inl ⟨by rfl, ?_⟩) ?_ ?_
            rotate_left
            · intro w'
              go_simp
              with_reducible rfl
            rotate_left
            · simp only [Act.put, List.setIfInBounds_toArray, List.set_cons_zero, List.set_cons_succ, i64_w, i32_w]
              rfl
            refine pure_ (i := 2) (N := some 26) (v := ?_) (a' := ?_) #[false, true, true, false, false, false] rfl rfl (by kernel_rfl) (fun _ _ _ h => h) (Or.inl ⟨by rfl, ?_⟩) ?_ ?_
            rotate_left
            · intro w'
              go_simp
              with_reducible rfl
            rotate_left
            · simp only [Act.put, List.setIfInBounds_toArray, List.set_cons_zero, List.set_cons_succ, i64_w, i32_w]
              rfl
            refine take_ (i := 3) (N := some 27) (v := ?_) (a' := ?_) #[false, true, true, true, false, false] rfl rfl (by kernel_rfl) (fun _ _ _ h => h) (Or.inl ⟨by rfl, ?_⟩) hHeld ?_ ?_
            rotate_left
            · intro w' s0
              go_simp
              with_reducible rfl
            rotate_left
            · simp only [Act.put, List.setIfInBounds_toArray, List.set_cons_zero, List.set_cons_succ, i64_w, i32_w]
              rfl
            refine one_ (i := 0) (N := some 24) #[true, true, true, true, false, false] rfl rfl (by kernel_rfl) (by decide) (fun K hK => ?_)
            refine goes_ Try.func64 (by kernel_rfl) rfl #[] (by rfl) rfl rfl (by first | (simp only [List.map_toArray, List.map_cons, List.map_nil]; done) | (simp only [List.map_toArray, List.map_cons, List.map_nil]; rfl)) ?_
            with_reducible refine (named_any _).mono ?_
            rintro e w3 ⟨rfl, hm, hb⟩
            refine ⟨_, rfl, ?_⟩
            have HB3 := Aside0.mk (below_then (below_drew HB2.out) HB2.out.size hb)
            have HO3 := Aside0.mk (Kd.S_below (Kd.S_drew HO2.out) hb)
            have hlk : (Instr.lookup 97 (.map (some w2.heap.size)) (.string s3) false).run Try.prog w3 = .ok (.int .i64 (kindS s3)) w3 := (named_look (P := Try.prog) mapU Try.underlying9 zero_int w3 _ hm s3).1
            rw [HS3.out] at hlk
            have HM3 := Aside0.mk hm
            clear hb hm
            refine hK.out _ _ ((hcv w3 HB3.out)) (fun hHeld => ?_)
            clear hK K
            refine norm_ (a' := ?_) ?_ ?_
            rotate_left
            · show Act.put _ (some 24) _ = _
              simp only [Act.put, List.setIfInBounds_toArray, List.set_cons_zero, List.set_cons_succ, i64_w, i32_w]
              rfl
            refine last_ (i := 4) (N := some 28) #[true, true, true, true, true, false] rfl rfl (by kernel_rfl) (by decide) (fun K hK => ?_)
            refine value_ (w1 := w3) (v := .int .i64 (kindZ K3)) (by rfl) rfl (by first | (go_simp; rw [hlk]; done) | (go_simp; done) | (go_simp; rw [hlk, hz]; done)) ?_
            refine hK.out _ _ ?_
            clear hK K
            refine norm_ (a' := ?_) ?_ ?_
            rotate_left
            · show Act.put _ (some 28) _ = _
              simp only [Act.put, List.setIfInBounds_toArray, List.set_cons_zero, List.set_cons_succ, i64_w, i32_w]
              rfl
            refine pure_ (i := 5) (N := some 7) (v := ?_) (a' := ?_) #[true, true, true, true, true, true] rfl rfl (by kernel_rfl) (fun _ _ _ h => h) (Or.inl ⟨by rfl, ?_⟩) ?_ ?_
            rotate_left
            · intro w'
              go_simp
              with_reducible rfl
            rotate_left
            · simp only [Act.put, List.setIfInBounds_toArray, List.set_cons_zero, List.set_cons_succ, i64_w, i32_w]
              rfl
            refine done_ (by kernel_rfl) ?_
            all_goals go_wp2
            refine start_ (n := 12) (S := fun w' => True) (ds := [4, 5, 6]) #[false, false, false, false, false, false, false, false, false, false, false, false] (by kernel_rfl) rfl rfl trivial (fun hHeld => ?_)
            refine pure_ (i := 0) (N := some 31) (v := ?_) (a' := ?_) #[true, false, false, false, false, false, false, false, false, false, false, false] rfl rfl (by kernel_rfl) (fun _ _ _ h => h) (Or.inl ⟨by rfl, ?_⟩) ?_ ?_
            rotate_left
            · intro w'
              go_simp
              with_reducible rfl
            rotate_left
            · simp only [Act.put, List.setIfInBounds_toArray, List.set_cons_zero, List.set_cons_succ, i64_w, i32_w]
              rfl
            refine pure_ (i := 1) (N := some 32) (v := ?_) (a' := ?_) #[true, true, false, false, false, false, false, false, false, false, false, false] rfl rfl (by kernel_rfl) (fun _ _ _ h => h) (Or.inl ⟨by rfl, ?_⟩) ?_ ?_
            rotate_left
            · intro w'
              go_simp
              with_reducible rfl
            rotate_left
            · simp only [Act.put, List.setIfInBounds_toArray, List.set_cons_zero, List.set_cons_succ, i64_w, i32_w]
              rfl
            refine pure_ (i := 2) (N := some 33) (v := ?_) (a' := ?_) #[true, true, true, false, false, false, false, false, false, false, false, false] rfl rfl (by kernel_rfl) (fun _ _ _ h => h) (Or.inl ⟨by rfl, ?_⟩) ?_ ?_
            rotate_left
            · intro w'
              go_simp
              with_reducible rfl
            rotate_left
            · simp only [Act.put, List.setIfInBounds_toArray, List.set_cons_zero, List.set_cons_succ, i64_w, i32_w]
              rfl
            refine pure_ (i := 3) (N := some 34) (v := ?_) (a' := ?_) #[true, true, true, true, false, false, false, false, false, false, false, false] rfl rfl (by kernel_rfl) (fun _ _ _ h => h) (Or.inl ⟨by rfl, ?_⟩) ?_ ?_
            rotate_left
            · intro w'
              go_simp
              with_reducible rfl
            rotate_left
            · simp only [Act.put, List.setIfInBounds_toArray, List.set_cons_zero, List.set_cons_succ, i64_w, i32_w]
              rfl
            refine pure_ (i := 7) (N := some 38) (v := ?_) (a' := ?_) #[true, true, true, true, false, false, false, true, false, false, false, false] rfl rfl (by kernel_rfl) (fun _ _ _ h => h) (Or.inl ⟨by rfl, ?_⟩) ?_ ?_
            rotate_left
            · intro w'
              go_simp
              with_reducible rfl
            rotate_left
            · simp only [Act.put, List.setIfInBounds_toArray, List.set_cons_zero, List.set_cons_succ, i64_w, i32_w]
              rfl
            refine pure_ (i := 8) (N := some 39) (v := ?_) (a' := ?_) #[true, true, true, true, false, false, false, true, true, false, false, false] rfl rfl (by kernel_rfl) (fun _ _ _ h => h) (Or.inl ⟨by rfl, ?_⟩) ?_ ?_
            rotate_left
            · intro w'
              go_simp
              with_reducible rfl
            rotate_left
            · simp only [Act.put, List.setIfInBounds_toArray, List.set_cons_zero, List.set_cons_succ, i64_w, i32_w]
              rfl
            refine pure_ (i := 9) (N := some 40) (v := ?_) (a' := ?_) #[true, true, true, true, false, false, false, true, true, true, false, false] rfl rfl (by kernel_rfl) (fun _ _ _ h => h) (Or.inl ⟨by rfl, ?_⟩) ?_ ?_
            rotate_left
            · intro w'
              go_simp
              with_reducible rfl
            rotate_left
            · simp only [Act.put, List.setIfInBounds_toArray, List.set_cons_zero, List.set_cons_succ, i64_w, i32_w]
              rfl
            refine last_ (i := 4) (N := some 35) #[true, true, true, true, true, false, false, true, true, true, false, false] rfl rfl (by kernel_rfl) (by decide) (fun K hK => ?_)
            refine Kd.R_append_rows_step (Kd.int .u8) (w0 := w3) w3.heap.size (by rfl) (.const (.slice none 0 0)) (.tmp 34) 22 5 (.int .u8 0) 1 (by rfl) Try.underlying22 info5k rfl (by decide) (by omega) _ [] T _ _ _ (fun _ => True) (fun _ => False) (by rfl) (by rfl) (Kd.R_nil _ _ _ _ _) (Kd.C_below HRT.out (below_drew HB3.out)) (fun _ _ h => h) (fun _ h => h.elim) (fun _ _ => trivial) (below_drew (Below.refl _ _)) (Nat.le_refl _) (by have := HTL.out; have := HL.out; have := HCP.out; simp; omega) ?_
            intro v4 w4 ho hb hg4 hat
            rw [List.nil_append] at ho
            obtain ⟨A4, c4, rfl⟩ := Kd.R_slice ho
            have HO4 := Aside0.mk ho
            have HB4 := Aside0.mk hb
            clear ho hb hg4 hat
            refine hK.out _ _ ?_
            clear hK K
            refine norm_ (a' := ?_) ?_ ?_
            rotate_left
            · show Act.put _ (some 35) _ = _
              simp only [Act.put, List.setIfInBounds_toArray, List.set_cons_zero, List.set_cons_succ, i64_w, i32_w]
              rfl
            refine last_ (i := 5) (N := some 36) #[true, true, true, true, true, true, false, true, true, true, false, false] rfl rfl (by kernel_rfl) (by decide) (fun K hK => ?_)
            refine value_ (w1 := ?_) (v := ?_) (by rfl) rfl ?_ ?_
            rotate_left 2
            · go_simp
              constructor
              · rfl
              · rfl
            refine hK.out _ _ ?_
            clear hK K
            refine norm_ (a' := ?_) ?_ ?_
            rotate_left
            · show Act.put _ (some 36) _ = _
              simp only [Act.put, List.setIfInBounds_toArray, List.set_cons_zero, List.set_cons_succ, i64_w, i32_w]
              rfl
            refine last_ (i := 6) (N := some 37) #[true, true, true, true, true, true, true, true, true, true, false, false] rfl rfl (by kernel_rfl) (by decide) (fun K hK => ?_)
            refine Kd.S_append_step (Kd.slice 5 (Kd.int .u8)) (w0 := w) w.heap.size (by rfl) (.tmp 31) (.tmp 36) 65 22 (.slice none 0 0) 24 (by rfl) Try.underlying65 infoBs rfl (by decide) (by omega) u3 out T [.slice A4 T.length c4] (fun _ => True) (fun k => w3.heap.size ≤ k) (by rfl) (by rfl) (Kd.M_row (Kd.R_lower (Kd.R_mono (Kd.R_bound HO4.out) (fun k hk => hk.2.1)) HB3.out.size)) (fun k hk => ⟨trivial, fun e => by have := Kd.S_lt HO3.out k e.symm; omega⟩) (fun _ _ => trivial) (Kd.S_mono (Kd.S_below (Kd.S_bound HO3.out) HB4.out) (fun k hk => ⟨trivial, by have := hk.2.2.1; omega⟩)) (below_then HB3.out HB3.out.size HB4.out) (Nat.le_trans HB3.out.size HB4.out.size) (by have := HL.out; omega) ?_
            intro v5 w5 ho hb hg5 hat
            have HO5 := Aside0.mk ho
            have HB5 := Aside0.mk hb
            clear ho hb hg5 hat
            refine hK.out _ _ ?_
            clear hK K
            refine norm_ (a' := ?_) ?_ ?_
            rotate_left
            · show Act.put _ (some 37) _ = _
              simp only [Act.put, List.setIfInBounds_toArray, List.set_cons_zero, List.set_cons_succ, i64_w, i32_w]
              rfl
            refine pure_ (i := 10) (N := some 3) (v := ?_) (a' := ?_) #[true, true, true, true, true, true, true, true, true, true, true, false] rfl rfl (by kernel_rfl) (fun _ _ _ h => h) (Or.inl ⟨by rfl, ?_⟩) ?_ ?_
            rotate_left
            · intro w'
              go_simp
              with_reducible rfl
            rotate_left
            · simp only [Act.put, List.setIfInBounds_toArray, List.set_cons_zero, List.set_cons_succ, i64_w, i32_w]
              rfl
            refine pure_ (i := 11) (N := some 0) (v := ?_) (a' := ?_) #[true, true, true, true, true, true, true, true, true, true, true, true] rfl rfl (by kernel_rfl) (fun _ _ _ h => h) (Or.inl ⟨by rfl, ?_⟩) ?_ ?_
            rotate_left
            · intro w'
              go_simp
              with_reducible rfl
            rotate_left
            · simp only [Act.put, List.setIfInBounds_toArray, List.set_cons_zero, List.set_cons_succ, i64_w, i32_w]
              rfl
            refine done_ (by kernel_rfl) ?_
            all_goals go_wp2
            go_roundg (D.length + 1)
            case measure => have := HK.out; have := HTL.out; have := HCP.out; omega
            case rel => exact ⟨A2, _, D, out ++ [T], rfl, ⟨rfl⟩, ⟨HTL.out.2.2.1, by have := HL.out; have := HTL.out; omega, by have := HL.out; have := HTL.out; have := HCP.out; rw [List.length_append, List.length_singleton]; omega⟩, HRD, H8D, ⟨by rw [HZ.out, HZ2.out, List.append_assoc]; rfl⟩, HO5, HB5⟩
          · have hTz : (kindZ K3 != 0) = true := by rw [bne_iff_ne]; exact hz
            obtain rfl : n = 3 := by rw [← hcut, if_pos ⟨h3, hz⟩]
            obtain rfl : K3 = T := by rw [← HTT.out, ← HK3.out]
            have hcD3 : ∀ W : World, (Instr.slice 22 (.slice A1 L.length c1) (some (.int .i64 3)) none none).run Try.prog W = .ok (.slice A2 D.length (c1 - 3)) W := hcD
            clear hcT hcD
            go_wp2_with (first | (go_at_call 14; refine (HF1.out _ HB.out).mono ?_; rintro e w2 ⟨rfl, hb⟩; have HB2 := Aside0.mk (below_then HB.out HB.out.size hb); have HO2 := Aside0.mk (Kd.S_below HO.out hb); clear hb))
            refine start_ (n := 6) (S := fun w' => (Go.convert 22 9 (.slice A1 K3.length c1)).run Try.prog w' = .ok (.string s3) w') (ds := [4]) #[false, false, false, false, false, false] (by kernel_rfl) rfl rfl ((hcv w2.drew (below_drew HB2.out))) (fun hHeld => ?_)
            refine pure_ (i := 1) (N := some 25) (v := ?_) (a' := ?_) #[false, true, false, false, false, false] rfl rfl (by kernel_rfl) (fun _ _ _ h => h) (Or.inl ⟨by rfl, ?_⟩) ?_ ?_
            rotate_left
            · intro w'
              go_simp
              with_reducible rfl
            rotate_left
            · simp only [Act.put, List.setIfInBounds_toArray, List.set_cons_zero, List.set_cons_succ, i64_w, i32_w]
              rfl
            refine pure_ (i := 2) (N := some 26) (v := ?_) (a' := ?_) #[false, true, true, false, false, false] rfl rfl (by kernel_rfl) (fun _ _ _ h => h) (Or.inl ⟨by rfl, ?_⟩) ?_ ?_
            rotate_left
            · intro w'
              go_simp
              with_reducible rfl
            rotate_left
            · simp only [Act.put, List.setIfInBounds_toArray, List.set_cons_zero, List.set_cons_succ, i64_w, i32_w]
              rfl
            refine take_ (i := 3) (N := some 27) (v := ?_) (a' := ?_) #[false, true, true, true, false, false] rfl rfl (by kernel_rfl) (fun _ _ _ h => h) (Or.inl ⟨by rfl, ?_⟩) hHeld ?_ ?_
            rotate_left
            · intro w' s0
              go_simp
              with_reducible rfl
            rotate_left
            · simp only [Act.put, List.setIfInBounds_toArray, List.set_cons_zero, List.set_cons_succ, i64_w, i32_w]
              rfl
            refine one_ (i := 0) (N := some 24) #[true, true, true, true, false, false] rfl rfl (by kernel_rfl) (by decide) (fun K hK => ?_)
            refine goes_ Try.func64 (by kernel_rfl) rfl #[] (by rfl) rfl rfl (by first | (simp only [List.map_toArray, List.map_cons, List.map_nil]; done) | (simp only [List.map_toArray, List.map_cons, List.map_nil]; rfl)) ?_
            with_reducible refine (named_any _).mono ?_
            rintro e w3 ⟨rfl, hm, hb⟩
            refine ⟨_, rfl, ?_⟩
            have HB3 := Aside0.mk (below_then (below_drew HB2.out) HB2.out.size hb)
            have HO3 := Aside0.mk (Kd.S_below (Kd.S_drew HO2.out) hb)
            have hlk : (Instr.lookup 97 (.map (some w2.heap.size)) (.string s3) false).run Try.prog w3 = .ok (.int .i64 (kindS s3)) w3 := (named_look (P := Try.prog) mapU Try.underlying9 zero_int w3 _ hm s3).1
            rw [HS3.out] at hlk
            have HM3 := Aside0.mk hm
            clear hb hm
            refine hK.out _ _ ((hcv w3 HB3.out)) (fun hHeld => ?_)
            clear hK K
            refine norm_ (a' := ?_) ?_ ?_
            rotate_left
            · show Act.put _ (some 24) _ = _
              simp only [Act.put, List.setIfInBounds_toArray, List.set_cons_zero, List.set_cons_succ, i64_w, i32_w]
              rfl
            refine last_ (i := 4) (N := some 28) #[true, true, true, true, true, false] rfl rfl (by kernel_rfl) (by decide) (fun K hK => ?_)
            refine value_ (w1 := w3) (v := .int .i64 (kindZ K3)) (by rfl) rfl (by first | (go_simp; rw [hlk]; done) | (go_simp; done) | (go_simp; rw [hlk, hz]; done)) ?_
            refine hK.out _ _ ?_
            clear hK K
            refine norm_ (a' := ?_) ?_ ?_
            rotate_left
            · show Act.put _ (some 28) _ = _
              simp only [Act.put, List.setIfInBounds_toArray, List.set_cons_zero, List.set_cons_succ, i64_w, i32_w]
              rfl
            refine pure_ (i := 5) (N := some 7) (v := ?_) (a' := ?_) #[true, true, true, true, true, true] rfl rfl (by kernel_rfl) (fun _ _ _ h => h) (Or.inl ⟨by rfl, ?_⟩) ?_ ?_
            rotate_left
            · intro w'
              go_simp
              with_reducible rfl
            rotate_left
            · simp only [Act.put, List.setIfInBounds_toArray, List.set_cons_zero, List.set_cons_succ, i64_w, i32_w]
              rfl
            refine done_ (by kernel_rfl) ?_
            all_goals go_wp2
            refine start_ (n := 12) (S := fun w' => True) (ds := [4, 5, 6]) #[false, false, false, false, false, false, false, false, false, false, false, false] (by kernel_rfl) rfl rfl trivial (fun hHeld => ?_)
            refine pure_ (i := 0) (N := some 31) (v := ?_) (a' := ?_) #[true, false, false, false, false, false, false, false, false, false, false, false] rfl rfl (by kernel_rfl) (fun _ _ _ h => h) (Or.inl ⟨by rfl, ?_⟩) ?_ ?_
            rotate_left
            · intro w'
              go_simp
              with_reducible rfl
            rotate_left
            · simp only [Act.put, List.setIfInBounds_toArray, List.set_cons_zero, List.set_cons_succ, i64_w, i32_w]
              rfl
            refine pure_ (i := 1) (N := some 32) (v := ?_) (a' := ?_) #[true, true, false, false, false, false, false, false, false, false, false, false] rfl rfl (by kernel_rfl) (fun _ _ _ h => h) (Or.inl ⟨by rfl, ?_⟩) ?_ ?_
            rotate_left
            · intro w'
              go_simp
              with_reducible rfl
            rotate_left
            · simp only [Act.put, List.setIfInBounds_toArray, List.set_cons_zero, List.set_cons_succ, i64_w, i32_w]
              rfl
            refine pure_ (i := 2) (N := some 33) (v := ?_) (a' := ?_) #[true, true, true, false, false, false, false, false, false, false, false, false] rfl rfl (by kernel_rfl) (fun _ _ _ h => h) (Or.inl ⟨by rfl, ?_⟩) ?_ ?_
            rotate_left
            · intro w'
              go_simp
              with_reducible rfl
            rotate_left
            · simp only [Act.put, List.setIfInBounds_toArray, List.set_cons_zero, List.set_cons_succ, i64_w, i32_w]
              rfl
            refine pure_ (i := 3) (N := some 34) (v := ?_) (a' := ?_) #[true, true, true, true, false, false, false, false, false, false, false, false] rfl rfl (by kernel_rfl) (fun _ _ _ h => h) (Or.inl ⟨by rfl, ?_⟩) ?_ ?_
            rotate_left
            · intro w'
              go_simp
              with_reducible rfl
            rotate_left
            · simp only [Act.put, List.setIfInBounds_toArray, List.set_cons_zero, List.set_cons_succ, i64_w, i32_w]
              rfl
            refine pure_ (i := 7) (N := some 38) (v := ?_) (a' := ?_) #[true, true, true, true, false, false, false, true, false, false, false, false] rfl rfl (by kernel_rfl) (fun _ _ _ h => h) (Or.inl ⟨by rfl, ?_⟩) ?_ ?_
            rotate_left
            · intro w'
              go_simp
              with_reducible rfl
            rotate_left
            · simp only [Act.put, List.setIfInBounds_toArray, List.set_cons_zero, List.set_cons_succ, i64_w, i32_w]
              rfl
            refine pure_ (i := 8) (N := some 39) (v := ?_) (a' := ?_) #[true, true, true, true, false, false, false, true, true, false, false, false] rfl rfl (by kernel_rfl) (fun _ _ _ h => h) (Or.inl ⟨by rfl, ?_⟩) ?_ ?_
            rotate_left
            · intro w'
              go_simp
              with_reducible rfl
            rotate_left
            · simp only [Act.put, List.setIfInBounds_toArray, List.set_cons_zero, List.set_cons_succ, i64_w, i32_w]
              rfl
            refine pure_ (i := 9) (N := some 40) (v := ?_) (a' := ?_) #[true, true, true, true, false, false, false, true, true, true, false, false] rfl rfl (by kernel_rfl) (fun _ _ _ h => h) (Or.inl ⟨by rfl, ?_⟩) ?_ ?_
            rotate_left
            · intro w'
              go_simp
              with_reducible rfl
            rotate_left
            · simp only [Act.put, List.setIfInBounds_toArray, List.set_cons_zero, List.set_cons_succ, i64_w, i32_w]
              rfl
            refine last_ (i := 4) (N := some 35) #[true, true, true, true, true, false, false, true, true, true, false, false] rfl rfl (by kernel_rfl) (by decide) (fun K hK => ?_)
            refine Kd.R_append_rows_step (Kd.int .u8) (w0 := w3) w3.heap.size (by rfl) (.const (.slice none 0 0)) (.tmp 34) 22 5 (.int .u8 0) 1 (by rfl) Try.underlying22 info5k rfl (by decide) (by omega) _ [] K3 _ _ _ (fun _ => True) (fun _ => False) (by rfl) (by rfl) (Kd.R_nil _ _ _ _ _) (Kd.C_below HRT.out (below_drew HB3.out)) (fun _ _ h => h) (fun _ h => h.elim) (fun _ _ => trivial) (below_drew (Below.refl _ _)) (Nat.le_refl _) (by have := HTL.out; have := HL.out; have := HCP.out; simp; omega) ?_
            intro v4 w4 ho hb hg4 hat
            rw [List.nil_append] at ho
            obtain ⟨A4, c4, rfl⟩ := Kd.R_slice ho
            have HO4 := Aside0.mk ho
            have HB4 := Aside0.mk hb
            clear ho hb hg4 hat
            refine hK.out _ _ ?_
            clear hK K
            refine norm_ (a' := ?_) ?_ ?_
            rotate_left
            · show Act.put _ (some 35) _ = _
              simp only [Act.put, List.setIfInBounds_toArray, List.set_cons_zero, List.set_cons_succ, i64_w, i32_w]
              rfl
            refine last_ (i := 5) (N := some 36) #[true, true, true, true, true, true, false, true, true, true, false, false] rfl rfl (by kernel_rfl) (by decide) (fun K hK => ?_)
            refine value_ (w1 := ?_) (v := ?_) (by rfl) rfl ?_ ?_
            rotate_left 2
            · go_simp
              constructor
              · rfl
              · rfl
            refine hK.out _ _ ?_
            clear hK K
            refine norm_ (a' := ?_) ?_ ?_
            rotate_left
            · show Act.put _ (some 36) _ = _
              simp only [Act.put, List.setIfInBounds_toArray, List.set_cons_zero, List.set_cons_succ, i64_w, i32_w]
              rfl
            refine last_ (i := 6) (N := some 37) #[true, true, true, true, true, true, true, true, true, true, false, false] rfl rfl (by kernel_rfl) (by decide) (fun K hK => ?_)
            refine Kd.S_append_step (Kd.slice 5 (Kd.int .u8)) (w0 := w) w.heap.size (by rfl) (.tmp 31) (.tmp 36) 65 22 (.slice none 0 0) 24 (by rfl) Try.underlying65 infoBs rfl (by decide) (by omega) u3 out K3 [.slice A4 K3.length c4] (fun _ => True) (fun k => w3.heap.size ≤ k) (by rfl) (by rfl) (Kd.M_row (Kd.R_lower (Kd.R_mono (Kd.R_bound HO4.out) (fun k hk => hk.2.1)) HB3.out.size)) (fun k hk => ⟨trivial, fun e => by have := Kd.S_lt HO3.out k e.symm; omega⟩) (fun _ _ => trivial) (Kd.S_mono (Kd.S_below (Kd.S_bound HO3.out) HB4.out) (fun k hk => ⟨trivial, by have := hk.2.2.1; omega⟩)) (below_then HB3.out HB3.out.size HB4.out) (Nat.le_trans HB3.out.size HB4.out.size) (by have := HL.out; omega) ?_
            intro v5 w5 ho hb hg5 hat
            have HO5 := Aside0.mk ho
            have HB5 := Aside0.mk hb
            clear ho hb hg5 hat
            refine hK.out _ _ ?_
            clear hK K
            refine norm_ (a' := ?_) ?_ ?_
            rotate_left
            · show Act.put _ (some 37) _ = _
              simp only [Act.put, List.setIfInBounds_toArray, List.set_cons_zero, List.set_cons_succ, i64_w, i32_w]
              rfl
            refine pure_ (i := 10) (N := some 3) (v := ?_) (a' := ?_) #[true, true, true, true, true, true, true, true, true, true, true, false] rfl rfl (by kernel_rfl) (fun _ _ _ h => h) (Or.inl ⟨by rfl, ?_⟩) ?_ ?_
            rotate_left
            · intro w'
              go_simp
              with_reducible rfl
            rotate_left
            · simp only [Act.put, List.setIfInBounds_toArray, List.set_cons_zero, List.set_cons_succ, i64_w, i32_w]
              rfl
            refine pure_ (i := 11) (N := some 0) (v := ?_) (a' := ?_) #[true, true, true, true, true, true, true, true, true, true, true, true] rfl rfl (by kernel_rfl) (fun _ _ _ h => h) (Or.inl ⟨by rfl, ?_⟩) ?_ ?_
            rotate_left
            · intro w'
              go_simp
              with_reducible rfl
            rotate_left
            · simp only [Act.put, List.setIfInBounds_toArray, List.set_cons_zero, List.set_cons_succ, i64_w, i32_w]
              rfl
            refine done_ (by kernel_rfl) ?_
            all_goals go_wp2
            go_roundg (D.length + 1)
            case measure => have := HK.out; have := HTL.out; have := HCP.out; omega
            case rel => exact ⟨A2, _, D, out ++ [K3], rfl, ⟨rfl⟩, ⟨HTL.out.2.2.1, by have := HL.out; have := HTL.out; omega, by have := HL.out; have := HTL.out; have := HCP.out; rw [List.length_append, List.length_singleton]; omega⟩, HRD, H8D, ⟨by rw [HZ.out, HZ2.out, List.append_assoc]; rfl⟩, HO5, HB5⟩
        · have hTk : decide (k > 0) = false := decide_eq_false hk
          by_cases hz : kindZ K3 = 0
          · have hTz : (kindZ K3 != 0) = false := by rw [hz]; rfl
            obtain rfl : n = L.length := by rw [← hcut, if_neg (by rw [hz]; simp), if_neg hk]
            go_wp2_with (first | (go_at_call 14; refine (HF1.out _ HB.out).mono ?_; rintro e w2 ⟨rfl, hb⟩; have HB2 := Aside0.mk (below_then HB.out HB.out.size hb); have HO2 := Aside0.mk (Kd.S_below HO.out hb); clear hb))
            refine start_ (n := 6) (S := fun w' => (Go.convert 22 9 (.slice A1 K3.length c1)).run Try.prog w' = .ok (.string s3) w') (ds := [4]) #[false, false, false, false, false, false] (by kernel_rfl) rfl rfl ((hcv w2.drew (below_drew HB2.out))) (fun hHeld => ?_)
            refine pure_ (i := 1) (N := some 25) (v := ?_) (a' := ?_) #[false, true, false, false, false, false] rfl rfl (by kernel_rfl) (fun _ _ _ h => h) (Or.inl ⟨by rfl, ?_⟩) ?_ ?_
            rotate_left
            · intro w'
              go_simp
              with_reducible rfl
            rotate_left
            · simp only [Act.put, List.setIfInBounds_toArray, List.set_cons_zero, List.set_cons_succ, i64_w, i32_w]
              rfl
            refine pure_ (i := 2) (N := some 26) (v := ?_) (a' := ?_) #[false, true, true, false, false, false] rfl rfl (by kernel_rfl) (fun _ _ _ h => h) (Or.inl ⟨by rfl, ?_⟩) ?_ ?_
            rotate_left
            · intro w'
              go_simp
              with_reducible rfl
            rotate_left
            · simp only [Act.put, List.setIfInBounds_toArray, List.set_cons_zero, List.set_cons_succ, i64_w, i32_w]
              rfl
            refine take_ (i := 3) (N := some 27) (v := ?_) (a' := ?_) #[false, true, true, true, false, false] rfl rfl (by kernel_rfl) (fun _ _ _ h => h) (Or.inl ⟨by rfl, ?_⟩) hHeld ?_ ?_
            rotate_left
            · intro w' s0
              go_simp
              with_reducible rfl
            rotate_left
            · simp only [Act.put, List.setIfInBounds_toArray, List.set_cons_zero, List.set_cons_succ, i64_w, i32_w]
              rfl
            refine one_ (i := 0) (N := some 24) #[true, true, true, true, false, false] rfl rfl (by kernel_rfl) (by decide) (fun K hK => ?_)
            refine goes_ Try.func64 (by kernel_rfl) rfl #[] (by rfl) rfl rfl (by first | (simp only [List.map_toArray, List.map_cons, List.map_nil]; done) | (simp only [List.map_toArray, List.map_cons, List.map_nil]; rfl)) ?_
            with_reducible refine (named_any _).mono ?_
            rintro e w3 ⟨rfl, hm, hb⟩
            refine ⟨_, rfl, ?_⟩
            have HB3 := Aside0.mk (below_then (below_drew HB2.out) HB2.out.size hb)
            have HO3 := Aside0.mk (Kd.S_below (Kd.S_drew HO2.out) hb)
            have hlk : (Instr.lookup 97 (.map (some w2.heap.size)) (.string s3) false).run Try.prog w3 = .ok (.int .i64 (kindS s3)) w3 := (named_look (P := Try.prog) mapU Try.underlying9 zero_int w3 _ hm s3).1
            rw [HS3.out] at hlk
            have HM3 := Aside0.mk hm
            clear hb hm
            refine hK.out _ _ ((hcv w3 HB3.out)) (fun hHeld => ?_)
            clear hK K
            refine norm_ (a' := ?_) ?_ ?_
            rotate_left
            · show Act.put _ (some 24) _ = _
              simp only [Act.put, List.setIfInBounds_toArray, List.set_cons_zero, List.set_cons_succ, i64_w, i32_w]
              rfl
            refine last_ (i := 4) (N := some 28) #[true, true, true, true, true, false] rfl rfl (by kernel_rfl) (by decide) (fun K hK => ?_)
            refine value_ (w1 := w3) (v := .int .i64 (kindZ K3)) (by rfl) rfl (by first | (go_simp; rw [hlk]; done) | (go_simp; done) | (go_simp; rw [hlk, hz]; done)) ?_
            refine hK.out _ _ ?_
            clear hK K
            refine norm_ (a' := ?_) ?_ ?_
            rotate_left
            · show Act.put _ (some 28) _ = _
              simp only [Act.put, List.setIfInBounds_toArray, List.set_cons_zero, List.set_cons_succ, i64_w, i32_w]
              rfl
            refine pure_ (i := 5) (N := some 7) (v := ?_) (a' := ?_) #[true, true, true, true, true, true] rfl rfl (by kernel_rfl) (fun _ _ _ h => h) (Or.inl ⟨by rfl, ?_⟩) ?_ ?_
            rotate_left
            · intro w'
              go_simp
              with_reducible rfl
            rotate_left
            · simp only [Act.put, List.setIfInBounds_toArray, List.set_cons_zero, List.set_cons_succ, i64_w, i32_w]
              rfl
            refine done_ (by kernel_rfl) ?_
            all_goals go_wp2
            refine start_ (n := 12) (S := fun w' => True) (ds := [4, 5, 6]) #[false, false, false, false, false, false, false, false, false, false, false, false] (by kernel_rfl) rfl rfl trivial (fun hHeld => ?_)
            refine pure_ (i := 0) (N := some 31) (v := ?_) (a' := ?_) #[true, false, false, false, false, false, false, false, false, false, false, false] rfl rfl (by kernel_rfl) (fun _ _ _ h => h) (Or.inl ⟨by rfl, ?_⟩) ?_ ?_
            rotate_left
            · intro w'
              go_simp
              with_reducible rfl
            rotate_left
            · simp only [Act.put, List.setIfInBounds_toArray, List.set_cons_zero, List.set_cons_succ, i64_w, i32_w]
              rfl
            refine pure_ (i := 1) (N := some 32) (v := ?_) (a' := ?_) #[true, true, false, false, false, false, false, false, false, false, false, false] rfl rfl (by kernel_rfl) (fun _ _ _ h => h) (Or.inl ⟨by rfl, ?_⟩) ?_ ?_
            rotate_left
            · intro w'
              go_simp
              with_reducible rfl
            rotate_left
            · simp only [Act.put, List.setIfInBounds_toArray, List.set_cons_zero, List.set_cons_succ, i64_w, i32_w]
              rfl
            refine pure_ (i := 2) (N := some 33) (v := ?_) (a' := ?_) #[true, true, true, false, false, false, false, false, false, false, false, false] rfl rfl (by kernel_rfl) (fun _ _ _ h => h) (Or.inl ⟨by rfl, ?_⟩) ?_ ?_
            rotate_left
            · intro w'
              go_simp
              with_reducible rfl
            rotate_left
            · simp only [Act.put, List.setIfInBounds_toArray, List.set_cons_zero, List.set_cons_succ, i64_w, i32_w]
              rfl
            refine pure_ (i := 3) (N := some 34) (v := ?_) (a' := ?_) #[true, true, true, true, false, false, false, false, false, false, false, false] rfl rfl (by kernel_rfl) (fun _ _ _ h => h) (Or.inl ⟨by rfl, ?_⟩) ?_ ?_
            rotate_left
            · intro w'
              go_simp
              with_reducible rfl
            rotate_left
            · simp only [Act.put, List.setIfInBounds_toArray, List.set_cons_zero, List.set_cons_succ, i64_w, i32_w]
              rfl
            refine pure_ (i := 7) (N := some 38) (v := ?_) (a' := ?_) #[true, true, true, true, false, false, false, true, false, false, false, false] rfl rfl (by kernel_rfl) (fun _ _ _ h => h) (Or.inl ⟨by rfl, ?_⟩) ?_ ?_
            rotate_left
            · intro w'
              go_simp
              with_reducible rfl
            rotate_left
            · simp only [Act.put, List.setIfInBounds_toArray, List.set_cons_zero, List.set_cons_succ, i64_w, i32_w]
              rfl
            refine pure_ (i := 8) (N := some 39) (v := ?_) (a' := ?_) #[true, true, true, true, false, false, false, true, true, false, false, false] rfl rfl (by kernel_rfl) (fun _ _ _ h => h) (Or.inl ⟨by rfl, ?_⟩) ?_ ?_
            rotate_left
            · intro w'
              go_simp
              with_reducible rfl
            rotate_left
            · simp only [Act.put, List.setIfInBounds_toArray, List.set_cons_zero, List.set_cons_succ, i64_w, i32_w]
              rfl
            refine pure_ (i := 9) (N := some 40) (v := ?_) (a' := ?_) #[true, true, true, true, false, false, false, true, true, true, false, false] rfl rfl (by kernel_rfl) (fun _ _ _ h => h) (Or.inl ⟨by rfl, ?_⟩) ?_ ?_
            rotate_left
            · intro w'
              go_simp
              with_reducible rfl
            rotate_left
            · simp only [Act.put, List.setIfInBounds_toArray, List.set_cons_zero, List.set_cons_succ, i64_w, i32_w]
              rfl
            refine last_ (i := 4) (N := some 35) #[true, true, true, true, true, false, false, true, true, true, false, false] rfl rfl (by kernel_rfl) (by decide) (fun K hK => ?_)
            refine Kd.R_append_rows_step (Kd.int .u8) (w0 := w3) w3.heap.size (by rfl) (.const (.slice none 0 0)) (.tmp 34) 22 5 (.int .u8 0) 1 (by rfl) Try.underlying22 info5k rfl (by decide) (by omega) _ [] T _ _ _ (fun _ => True) (fun _ => False) (by rfl) (by rfl) (Kd.R_nil _ _ _ _ _) (Kd.C_below HRT.out (below_drew HB3.out)) (fun _ _ h => h) (fun _ h => h.elim) (fun _ _ => trivial) (below_drew (Below.refl _ _)) (Nat.le_refl _) (by have := HTL.out; have := HL.out; have := HCP.out; simp; omega) ?_
            intro v4 w4 ho hb hg4 hat
            rw [List.nil_append] at ho
            obtain ⟨A4, c4, rfl⟩ := Kd.R_slice ho
            have HO4 := Aside0.mk ho
            have HB4 := Aside0.mk hb
            clear ho hb hg4 hat
            refine hK.out _ _ ?_
            clear hK K
            refine norm_ (a' := ?_) ?_ ?_
            rotate_left
            · show Act.put _ (some 35) _ = _
              simp only [Act.put, List.setIfInBounds_toArray, List.set_cons_zero, List.set_cons_succ, i64_w, i32_w]
              rfl
            refine last_ (i := 5) (N := some 36) #[true, true, true, true, true, true, false, true, true, true, false, false] rfl rfl (by kernel_rfl) (by decide) (fun K hK => ?_)
            refine value_ (w1 := ?_) (v := ?_) (by rfl) rfl ?_ ?_
            rotate_left 2
            · go_simp
              constructor
              · rfl
              · rfl
            refine hK.out _ _ ?_
            clear hK K
            refine norm_ (a' := ?_) ?_ ?_
            rotate_left
            · show Act.put _ (some 36) _ = _
              simp only [Act.put, List.setIfInBounds_toArray, List.set_cons_zero, List.set_cons_succ, i64_w, i32_w]
              rfl
            refine last_ (i := 6) (N := some 37) #[true, true, true, true, true, true, true, true, true, true, false, false] rfl rfl (by kernel_rfl) (by decide) (fun K hK => ?_)
            refine Kd.S_append_step (Kd.slice 5 (Kd.int .u8)) (w0 := w) w.heap.size (by rfl) (.tmp 31) (.tmp 36) 65 22 (.slice none 0 0) 24 (by rfl) Try.underlying65 infoBs rfl (by decide) (by omega) u3 out T [.slice A4 T.length c4] (fun _ => True) (fun k => w3.heap.size ≤ k) (by rfl) (by rfl) (Kd.M_row (Kd.R_lower (Kd.R_mono (Kd.R_bound HO4.out) (fun k hk => hk.2.1)) HB3.out.size)) (fun k hk => ⟨trivial, fun e => by have := Kd.S_lt HO3.out k e.symm; omega⟩) (fun _ _ => trivial) (Kd.S_mono (Kd.S_below (Kd.S_bound HO3.out) HB4.out) (fun k hk => ⟨trivial, by have := hk.2.2.1; omega⟩)) (below_then HB3.out HB3.out.size HB4.out) (Nat.le_trans HB3.out.size HB4.out.size) (by have := HL.out; omega) ?_
            intro v5 w5 ho hb hg5 hat
            have HO5 := Aside0.mk ho
            have HB5 := Aside0.mk hb
            clear ho hb hg5 hat
            refine hK.out _ _ ?_
            clear hK K
            refine norm_ (a' := ?_) ?_ ?_
            rotate_left
            · show Act.put _ (some 37) _ = _
              simp only [Act.put, List.setIfInBounds_toArray, List.set_cons_zero, List.set_cons_succ, i64_w, i32_w]
              rfl
            refine pure_ (i := 10) (N := some 3) (v := ?_) (a' := ?_) #[true, true, true, true, true, true, true, true, true, true, true, false] rfl rfl (by kernel_rfl) (fun _ _ _ h => h) (Or.inl ⟨by rfl, ?_⟩) ?_ ?_
            rotate_left
            · intro w'
              go_simp
              with_reducible rfl
            rotate_left
            · simp only [Act.put, List.setIfInBounds_toArray, List.set_cons_zero, List.set_cons_succ, i64_w, i32_w]
              rfl
            refine pure_ (i := 11) (N := some 0) (v := ?_) (a' := ?_) #[true, true, true, true, true, true, true, true, true, true, true, true] rfl rfl (by kernel_rfl) (fun _ _ _ h => h) (Or.inl ⟨by rfl, ?_⟩) ?_ ?_
            rotate_left
            · intro w'
              go_simp
              with_reducible rfl
            rotate_left
            · simp only [Act.put, List.setIfInBounds_toArray, List.set_cons_zero, List.set_cons_succ, i64_w, i32_w]
              rfl
            refine done_ (by kernel_rfl) ?_
            all_goals go_wp2
            go_roundg (D.length + 1)
            case measure => have := HK.out; have := HTL.out; have := HCP.out; omega
            case rel => exact ⟨A2, _, D, out ++ [T], rfl, ⟨rfl⟩, ⟨HTL.out.2.2.1, by have := HL.out; have := HTL.out; omega, by have := HL.out; have := HTL.out; have := HCP.out; rw [List.length_append, List.length_singleton]; omega⟩, HRD, H8D, ⟨by rw [HZ.out, HZ2.out, List.append_assoc]; rfl⟩, HO5, HB5⟩
          · have hTz : (kindZ K3 != 0) = true := by rw [bne_iff_ne]; exact hz
            obtain rfl : n = 3 := by rw [← hcut, if_pos ⟨h3, hz⟩]
            obtain rfl : K3 = T := by rw [← HTT.out, ← HK3.out]
            have hcD3 : ∀ W : World, (Instr.slice 22 (.slice A1 L.length c1) (some (.int .i64 3)) none none).run Try.prog W = .ok (.slice A2 D.length (c1 - 3)) W := hcD
            clear hcT hcD
            go_wp2_with (first | (go_at_call 14; refine (HF1.out _ HB.out).mono ?_; rintro e w2 ⟨rfl, hb⟩; have HB2 := Aside0.mk (below_then HB.out HB.out.size hb); have HO2 := Aside0.mk (Kd.S_below HO.out hb); clear hb))
            refine start_ (n := 6) (S := fun w' => (Go.convert 22 9 (.slice A1 K3.length c1)).run Try.prog w' = .ok (.string s3) w') (ds := [4]) #[false, false, false, false, false, false] (by kernel_rfl) rfl rfl ((hcv w2.drew (below_drew HB2.out))) (fun hHeld => ?_)
            refine pure_ (i := 1) (N := some 25) (v := ?_) (a' := ?_) #[false, true, false, false, false, false] rfl rfl (by kernel_rfl) (fun _ _ _ h => h) (Or.inl ⟨by rfl, ?_⟩) ?_ ?_
            rotate_left
            · intro w'
              go_simp
              with_reducible rfl
            rotate_left
            · simp only [Act.put, List.setIfInBounds_toArray, List.set_cons_zero, List.set_cons_succ, i64_w, i32_w]
              rfl
            refine pure_ (i := 2) (N := some 26) (v := ?_) (a' := ?_) #[false, true, true, false, false, false] rfl rfl (by kernel_rfl) (fun _ _ _ h => h) (Or.inl ⟨by rfl, ?_⟩) ?_ ?_
            rotate_left
            · intro w'
              go_simp
              with_reducible rfl
            rotate_left
            · simp only [Act.put, List.setIfInBounds_toArray, List.set_cons_zero, List.set_cons_succ, i64_w, i32_w]
              rfl
            refine take_ (i := 3) (N := some 27) (v := ?_) (a' := ?_) #[false, true, true, true, false, false] rfl rfl (by kernel_rfl) (fun _ _ _ h => h) (Or.inl ⟨by rfl, ?_⟩) hHeld ?_ ?_
            rotate_left
            · intro w' s0
              go_simp
              with_reducible rfl
            rotate_left
            · simp only [Act.put, List.setIfInBounds_toArray, List.set_cons_zero, List.set_cons_succ, i64_w, i32_w]
              rfl
            refine one_ (i := 0) (N := some 24) #[true, true, true, true, false, false] rfl rfl (by kernel_rfl) (by decide) (fun K hK => ?_)
            refine goes_ Try.func64 (by kernel_rfl) rfl #[] (by rfl) rfl rfl (by first | (simp only [List.map_toArray, List.map_cons, List.map_nil]; done) | (simp only [List.map_toArray, List.map_cons, List.map_nil]; rfl)) ?_
            with_reducible refine (named_any _).mono ?_
            rintro e w3 ⟨rfl, hm, hb⟩
            refine ⟨_, rfl, ?_⟩
            have HB3 := Aside0.mk (below_then (below_drew HB2.out) HB2.out.size hb)
            have HO3 := Aside0.mk (Kd.S_below (Kd.S_drew HO2.out) hb)
            have hlk : (Instr.lookup 97 (.map (some w2.heap.size)) (.string s3) false).run Try.prog w3 = .ok (.int .i64 (kindS s3)) w3 := (named_look (P := Try.prog) mapU Try.underlying9 zero_int w3 _ hm s3).1
            rw [HS3.out] at hlk
            have HM3 := Aside0.mk hm
            clear hb hm
            refine hK.out _ _ ((hcv w3 HB3.out)) (fun hHeld => ?_)
            clear hK K
            refine norm_ (a' := ?_) ?_ ?_
            rotate_left
            · show Act.put _ (some 24) _ = _
              simp only [Act.put, List.setIfInBounds_toArray, List.set_cons_zero, List.set_cons_succ, i64_w, i32_w]
              rfl
            refine last_ (i := 4) (N := some 28) #[true, true, true, true, true, false] rfl rfl (by kernel_rfl) (by decide) (fun K hK => ?_)
            refine value_ (w1 := w3) (v := .int .i64 (kindZ K3)) (by rfl) rfl (by first | (go_simp; rw [hlk]; done) | (go_simp; done) | (go_simp; rw [hlk, hz]; done)) ?_
            refine hK.out _ _ ?_
            clear hK K
            refine norm_ (a' := ?_) ?_ ?_
            rotate_left
            · show Act.put _ (some 28) _ = _
              simp only [Act.put, List.setIfInBounds_toArray, List.set_cons_zero, List.set_cons_succ, i64_w, i32_w]
              rfl
            refine pure_ (i := 5) (N := some 7) (v := ?_) (a' := ?_) #[true, true, true, true, true, true] rfl rfl (by kernel_rfl) (fun _ _ _ h => h) (Or.inl ⟨by rfl, ?_⟩) ?_ ?_
            rotate_left
            · intro w'
              go_simp
              with_reducible rfl
            rotate_left
            · simp only [Act.put, List.setIfInBounds_toArray, List.set_cons_zero, List.set_cons_succ, i64_w, i32_w]
              rfl
            refine done_ (by kernel_rfl) ?_
            all_goals go_wp2
            refine start_ (n := 12) (S := fun w' => True) (ds := [4, 5, 6]) #[false, false, false, false, false, false, false, false, false, false, false, false] (by kernel_rfl) rfl rfl trivial (fun hHeld => ?_)
            refine pure_ (i := 0) (N := some 31) (v := ?_) (a' := ?_) #[true, false, false, false, false, false, false, false, false, false, false, false] rfl rfl (by kernel_rfl) (fun _ _ _ h => h) (Or.inl ⟨by rfl, ?_⟩) ?_ ?_
            rotate_left
            · intro w'
              go_simp
              with_reducible rfl
            rotate_left
            · simp only [Act.put, List.setIfInBounds_toArray, List.set_cons_zero, List.set_cons_succ, i64_w, i32_w]
              rfl
            refine pure_ (i := 1) (N := some 32) (v := ?_) (a' := ?_) #[true, true, false, false, false, false, false, false, false, false, false, false] rfl rfl (by kernel_rfl) (fun _ _ _ h => h) (Or.inl ⟨by rfl, ?_⟩) ?_ ?_
            rotate_left
            · intro w'
              go_simp
              with_reducible rfl
            rotate_left
            · simp only [Act.put, List.setIfInBounds_toArray, List.set_cons_zero, List.set_cons_succ, i64_w, i32_w]
              rfl
            refine pure_ (i := 2) (N := some 33) (v := ?_) (a' := ?_) #[true, true, true, false, false, false, false, false, false, false, false, false] rfl rfl (by kernel_rfl) (fun _ _ _ h => h) (Or.inl ⟨by rfl, ?_⟩) ?_ ?_
            rotate_left
            · intro w'
              go_simp
              with_reducible rfl
            rotate_left
            · simp only [Act.put, List.setIfInBounds_toArray, List.set_cons_zero, List.set_cons_succ, i64_w, i32_w]
              rfl
            refine pure_ (i := 3) (N := some 34) (v := ?_) (a' := ?_) #[true, true, true, true, false, false, false, false, false, false, false, false] rfl rfl (by kernel_rfl) (fun _ _ _ h => h) (Or.inl ⟨by rfl, ?_⟩) ?_ ?_
            rotate_left
            · intro w'
              go_simp
              with_reducible rfl
            rotate_left
            · simp only [Act.put, List.setIfInBounds_toArray, List.set_cons_zero, List.set_cons_succ, i64_w, i32_w]
              rfl
            refine pure_ (i := 7) (N := some 38) (v := ?_) (a' := ?_) #[true, true, true, true, false, false, false, true, false, false, false, false] rfl rfl (by kernel_rfl) (fun _ _ _ h => h) (Or.inl ⟨by rfl, ?_⟩) ?_ ?_
            rotate_left
            · intro w'
              go_simp
              with_reducible rfl
            rotate_left
            · simp only [Act.put, List.setIfInBounds_toArray, List.set_cons_zero, List.set_cons_succ, i64_w, i32_w]
              rfl
            refine pure_ (i := 8) (N := some 39) (v := ?_) (a' := ?_) #[true, true, true, true, false, false, false, true, true, false, false, false] rfl rfl (by kernel_rfl) (fun _ _ _ h => h) (Or.inl ⟨by rfl, ?_⟩) ?_ ?_
            rotate_left
            · intro w'
              go_simp
              with_reducible rfl
            rotate_left
            · simp only [Act.put, List.setIfInBounds_toArray, List.set_cons_zero, List.set_cons_succ, i64_w, i32_w]
              rfl
            refine pure_ (i := 9) (N := some 40) (v := ?_) (a' := ?_) #[true, true, true, true, false, false, false, true, true, true, false, false] rfl rfl (by kernel_rfl) (fun _ _ _ h => h) (Or.inl ⟨by rfl, ?_⟩) ?_ ?_
            rotate_left
            · intro w'
              go_simp
              with_reducible rfl
            rotate_left
            · simp only [Act.put, List.setIfInBounds_toArray, List.set_cons_zero, List.set_cons_succ, i64_w, i32_w]
              rfl
            refine last_ (i := 4) (N := some 35) #[true, true, true, true, true, false, false, true, true, true, false, false] rfl rfl (by kernel_rfl) (by decide) (fun K hK => ?_)
            refine Kd.R_append_rows_step (Kd.int .u8) (w0 := w3) w3.heap.size (by rfl) (.const (.slice none 0 0)) (.tmp 34) 22 5 (.int .u8 0) 1 (by rfl) Try.underlying22 info5k rfl (by decide) (by omega) _ [] K3 _ _ _ (fun _ => True) (fun _ => False) (by rfl) (by rfl) (Kd.R_nil _ _ _ _ _) (Kd.C_below HRT.out (below_drew HB3.out)) (fun _ _ h => h) (fun _ h => h.elim) (fun _ _ => trivial) (below_drew (Below.refl _ _)) (Nat.le_refl _) (by have := HTL.out; have := HL.out; have := HCP.out; simp; omega) ?_
            intro v4 w4 ho hb hg4 hat
            rw [List.nil_append] at ho
            obtain ⟨A4, c4, rfl⟩ := Kd.R_slice ho
            have HO4 := Aside0.mk ho
            have HB4 := Aside0.mk hb
            clear ho hb hg4 hat
            refine hK.out _ _ ?_
            clear hK K
            refine norm_ (a' := ?_) ?_ ?_
            rotate_left
            · show Act.put _ (some 35) _ = _
              simp only [Act.put, List.setIfInBounds_toArray, List.set_cons_zero, List.set_cons_succ, i64_w, i32_w]
              rfl
            refine last_ (i := 5) (N := some 36) #[true, true, true, true, true, true, false, true, true, true, false, false] rfl rfl (by kernel_rfl) (by decide) (fun K hK => ?_)
            refine value_ (w1 := ?_) (v := ?_) (by rfl) rfl ?_ ?_
            rotate_left 2
            · go_simp
              constructor
              · rfl
              · rfl
            refine hK.out _ _ ?_
            clear hK K
            refine norm_ (a' := ?_) ?_ ?_
            rotate_left
            · show Act.put _ (some 36) _ = _
              simp only [Act.put, List.setIfInBounds_toArray, List.set_cons_zero, List.set_cons_succ, i64_w, i32_w]
              rfl
            refine last_ (i := 6) (N := some 37) #[true, true, true, true, true, true, true, true, true, true, false, false] rfl rfl (by kernel_rfl) (by decide) (fun K hK => ?_)
            refine Kd.S_append_step (Kd.slice 5 (Kd.int .u8)) (w0 := w) w.heap.size (by rfl) (.tmp 31) (.tmp 36) 65 22 (.slice none 0 0) 24 (by rfl) Try.underlying65 infoBs rfl (by decide) (by omega) u3 out K3 [.slice A4 K3.length c4] (fun _ => True) (fun k => w3.heap.size ≤ k) (by rfl) (by rfl) (Kd.M_row (Kd.R_lower (Kd.R_mono (Kd.R_bound HO4.out) (fun k hk => hk.2.1)) HB3.out.size)) (fun k hk => ⟨trivial, fun e => by have := Kd.S_lt HO3.out k e.symm; omega⟩) (fun _ _ => trivial) (Kd.S_mono (Kd.S_below (Kd.S_bound HO3.out) HB4.out) (fun k hk => ⟨trivial, by have := hk.2.2.1; omega⟩)) (below_then HB3.out HB3.out.size HB4.out) (Nat.le_trans HB3.out.size HB4.out.size) (by have := HL.out; omega) ?_
            intro v5 w5 ho hb hg5 hat
            have HO5 := Aside0.mk ho
            have HB5 := Aside0.mk hb
            clear ho hb hg5 hat
            refine hK.out _ _ ?_
            clear hK K
            refine norm_ (a' := ?_) ?_ ?_
            rotate_left
            · show Act.put _ (some 37) _ = _
              simp only [Act.put, List.setIfInBounds_toArray, List.set_cons_zero, List.set_cons_succ, i64_w, i32_w]
              rfl
            refine pure_ (i := 10) (N := some 3) (v := ?_) (a' := ?_) #[true, true, true, true, true, true, true, true, true, true, true, false] rfl rfl (by kernel_rfl) (fun _ _ _ h => h) (Or.inl ⟨by rfl, ?_⟩) ?_ ?_
            rotate_left
            · intro w'
              go_simp
              with_reducible rfl
            rotate_left
            · simp only [Act.put, List.setIfInBounds_toArray, List.set_cons_zero, List.set_cons_succ, i64_w, i32_w]
              rfl
            refine pure_ (i := 11) (N := some 0) (v := ?_) (a' := ?_) #[true, true, true, true, true, true, true, true, true, true, true, true] rfl rfl (by kernel_rfl) (fun _ _ _ h => h) (Or.inl ⟨by rfl, ?_⟩) ?_ ?_
            rotate_left
            · intro w'
              go_simp
              with_reducible rfl
            rotate_left
            · simp only [Act.put, List.setIfInBounds_toArray, List.set_cons_zero, List.set_cons_succ, i64_w, i32_w]
              rfl
            refine done_ (by kernel_rfl) ?_
            all_goals go_wp2
            go_roundg (D.length + 1)
            case measure => have := HK.out; have := HTL.out; have := HCP.out; omega
            case rel => exact ⟨A2, _, D, out ++ [K3], rfl, ⟨rfl⟩, ⟨HTL.out.2.2.1, by have := HL.out; have := HTL.out; omega, by have := HL.out; have := HTL.out; have := HCP.out; rw [List.length_append, List.length_singleton]; omega⟩, HRD, H8D, ⟨by rw [HZ.out, HZ2.out, List.append_assoc]; rfl⟩, HO5, HB5⟩
      · have hT3 : decide ((L.length : Int) ≥ 3) = false := decide_eq_false (by omega)
        by_cases hk : 0 < k
        · have hTk : decide (k > 0) = true := decide_eq_true hk
          obtain rfl : n = k.toNat := by rw [← hcut, if_neg (fun h => h3 h.1), if_pos hk]
          have hkn : ((k.toNat : Nat) : Int) = k := by omega
          rw [hkn] at hcT hcD
          go_wp2_with (first | (go_at_call 14; refine (HF1.out _ HB.out).mono ?_; rintro e w2 ⟨rfl, hb⟩; have HB2 := Aside0.mk (below_then HB.out HB.out.size hb); have HO2 := Aside0.mk (Kd.S_below HO.out hb); clear hb))
          refine start_ (n := 12) (S := fun w' => True) (ds := [4, 5, 6]) #[false, false, false, false, false, false, false, false, false, false, false, false] (by kernel_rfl) rfl rfl trivial (fun hHeld => ?_)
          refine pure_ (i := 0) (N := some 31) (v := ?_) (a' := ?_) #[true, false, false, false, false, false, false, false, false, false, false, false] rfl rfl (by kernel_rfl) (fun _ _ _ h => h) (Or.inl ⟨by rfl, ?_⟩) ?_ ?_
          rotate_left
          · intro w'
            go_simp
            with_reducible rfl
          rotate_left
          · simp only [Act.put, List.setIfInBounds_toArray, List.set_cons_zero, List.set_cons_succ, i64_w, i32_w]
            rfl
          refine pure_ (i := 1) (N := some 32) (v := ?_) (a' := ?_) #[true, true, false, false, false, false, false, false, false, false, false, false] rfl rfl (by kernel_rfl) (fun _ _ _ h => h) (Or.inl ⟨by rfl, ?_⟩) ?_ ?_
          rotate_left
          · intro w'
            go_simp
            with_reducible rfl
          rotate_left
          · simp only [Act.put, List.setIfInBounds_toArray, List.set_cons_zero, List.set_cons_succ, i64_w, i32_w]
            rfl
          refine pure_ (i := 2) (N := some 33) (v := ?_) (a' := ?_) #[true, true, true, false, false, false, false, false, false, false, false, false] rfl rfl (by kernel_rfl) (fun _ _ _ h => h) (Or.inl ⟨by rfl, ?_⟩) ?_ ?_
          rotate_left
          · intro w'
            go_simp
            with_reducible rfl
          rotate_left
          · simp only [Act.put, List.setIfInBounds_toArray, List.set_cons_zero, List.set_cons_succ, i64_w, i32_w]
            rfl
          refine pure_ (i := 3) (N := some 34) (v := ?_) (a' := ?_) #[true, true, true, true, false, false, false, false, false, false, false, false] rfl rfl (by kernel_rfl) (fun _ _ _ h => h) (Or.inl ⟨by rfl, ?_⟩) ?_ ?_
          rotate_left
          · intro w'
            go_simp
            with_reducible rfl
          rotate_left
          · simp only [Act.put, List.setIfInBounds_toArray, List.set_cons_zero, List.set_cons_succ, i64_w, i32_w]
            rfl
          refine pure_ (i := 7) (N := some 38) (v := ?_) (a' := ?_) #[true, true, true, true, false, false, false, true, false, false, false, false] rfl rfl (by kernel_rfl) (fun _ _ _ h => h) (Or.inl ⟨by rfl, ?_⟩) ?_ ?_
          rotate_left
          · intro w'
            go_simp
            with_reducible rfl
          rotate_left
          · simp only [Act.put, List.setIfInBounds_toArray, List.set_cons_zero, List.set_cons_succ, i64_w, i32_w]
            rfl
          refine pure_ (i := 8) (N := some 39) (v := ?_) (a' := ?_) #[true, true, true, true, false, false, false, true, true, false, false, false] rfl rfl (by kernel_rfl) (fun _ _ _ h => h) (Or.inl ⟨by rfl, ?_⟩) ?_ ?_
          rotate_left
          · intro w'
            go_simp
            with_reducible rfl
          rotate_left
          · simp only [Act.put, List.setIfInBounds_toArray, List.set_cons_zero, List.set_cons_succ, i64_w, i32_w]
            rfl
          refine pure_ (i := 9) (N := some 40) (v := ?_) (a' := ?_) #[true, true, true, true, false, false, false, true, true, true, false, false] rfl rfl (by kernel_rfl) (fun _ _ _ h => h) (Or.inl ⟨by rfl, ?_⟩) ?_ ?_
          rotate_left
          · intro w'
            go_simp
            with_reducible rfl
          rotate_left
          · simp only [Act.put, List.setIfInBounds_toArray, List.set_cons_zero, List.set_cons_succ, i64_w, i32_w]
            rfl
          refine last_ (i := 4) (N := some 35) #[true, true, true, true, true, false, false, true, true, true, false, false] rfl rfl (by kernel_rfl) (by decide) (fun K hK => ?_)
          refine Kd.R_append_rows_step (Kd.int .u8) (w0 := w2) w2.heap.size (by rfl) (.const (.slice none 0 0)) (.tmp 34) 22 5 (.int .u8 0) 1 (by rfl) Try.underlying22 info5k rfl (by decide) (by omega) _ [] T _ _ _ (fun _ => True) (fun _ => False) (by rfl) (by rfl) (Kd.R_nil _ _ _ _ _) (Kd.C_below HRT.out (below_drew HB2.out)) (fun _ _ h => h) (fun _ h => h.elim) (fun _ _ => trivial) (below_drew (Below.refl _ _)) (Nat.le_refl _) (by have := HTL.out; have := HL.out; have := HCP.out; simp; omega) ?_
          intro v4 w4 ho hb hg4 hat
          rw [List.nil_append] at ho
          obtain ⟨A4, c4, rfl⟩ := Kd.R_slice ho
          have HO4 := Aside0.mk ho
          have HB4 := Aside0.mk hb
          clear ho hb hg4 hat
          refine hK.out _ _ ?_
          clear hK K
          refine norm_ (a' := ?_) ?_ ?_
          rotate_left
          · show Act.put _ (some 35) _ = _
            simp only [Act.put, List.setIfInBounds_toArray, List.set_cons_zero, List.set_cons_succ, i64_w, i32_w]
            rfl
          refine last_ (i := 5) (N := some 36) #[true, true, true, true, true, true, false, true, true, true, false, false] rfl rfl (by kernel_rfl) (by decide) (fun K hK => ?_)
          refine value_ (w1 := ?_) (v := ?_) (by rfl) rfl ?_ ?_
          rotate_left 2
          · go_simp
            constructor
            · rfl
            · rfl
          refine hK.out _ _ ?_
          clear hK K
          refine norm_ (a' := ?_) ?_ ?_
          rotate_left
          · show Act.put _ (some 36) _ = _
            simp only [Act.put, List.setIfInBounds_toArray, List.set_cons_zero, List.set_cons_succ, i64_w, i32_w]
            rfl
          refine last_ (i := 6) (N := some 37) #[true, true, true, true, true, true, true, true, true, true, false, false] rfl rfl (by kernel_rfl) (by decide) (fun K hK => ?_)
          refine Kd.S_append_step (Kd.slice 5 (Kd.int .u8)) (w0 := w) w.heap.size (by rfl) (.tmp 31) (.tmp 36) 65 22 (.slice none 0 0) 24 (by rfl) Try.underlying65 infoBs rfl (by decide) (by omega) u3 out T [.slice A4 T.length c4] (fun _ => True) (fun k => w2.heap.size ≤ k) (by rfl) (by rfl) (Kd.M_row (Kd.R_lower (Kd.R_mono (Kd.R_bound HO4.out) (fun k hk => hk.2.1)) HB2.out.size)) (fun k hk => ⟨trivial, fun e => by have := Kd.S_lt HO2.out k e.symm; omega⟩) (fun _ _ => trivial) (Kd.S_mono (Kd.S_below (Kd.S_bound HO2.out) HB4.out) (fun k hk => ⟨trivial, by have := hk.2.2.1; omega⟩)) (below_then HB2.out HB2.out.size HB4.out) (Nat.le_trans HB2.out.size HB4.out.size) (by have := HL.out; omega) ?_
          intro v5 w5 ho hb hg5 hat
          have HO5 := Aside0.mk ho
          have HB5 := Aside0.mk hb
          clear ho hb hg5 hat
          refine hK.out _ _ ?_
          clear hK K
          refine norm_ (a' := ?_) ?_ ?_
          rotate_left
          · show Act.put _ (some 37) _ = _
            simp only [Act.put, List.setIfInBounds_toArray, List.set_cons_zero, List.set_cons_succ, i64_w, i32_w]
            rfl
          refine pure_ (i := 10) (N := some 3) (v := ?_) (a' := ?_) #[true, true, true, true, true, true, true, true, true, true, true, false] rfl rfl (by kernel_rfl) (fun _ _ _ h => h) (Or.inl ⟨by rfl, ?_⟩) ?_ ?_
          rotate_left
          · intro w'
            go_simp
            with_reducible rfl
          rotate_left
          · simp only [Act.put, List.setIfInBounds_toArray, List.set_cons_zero, List.set_cons_succ, i64_w, i32_w]
            rfl
          refine pure_ (i := 11) (N := some 0) (v := ?_) (a' := ?_) #[true, true, true, true, true, true, true, true, true, true, true, true] rfl rfl (by kernel_rfl) (fun _ _ _ h => h) (Or.inl ⟨by rfl, ?_⟩) ?_ ?_
          rotate_left
          · intro w'
            go_simp
            with_reducible rfl
          rotate_left
          · simp only [Act.put, List.setIfInBounds_toArray, List.set_cons_zero, List.set_cons_succ, i64_w, i32_w]
            rfl
          refine done_ (by kernel_rfl) ?_
          all_goals go_wp2
          go_roundg (D.length + 1)
          case measure => have := HK.out; have := HTL.out; have := HCP.out; omega
          case rel => exact ⟨A2, _, D, out ++ [T], rfl, ⟨rfl⟩, ⟨HTL.out.2.2.1, by have := HL.out; have := HTL.out; omega, by have := HL.out; have := HTL.out; have := HCP.out; rw [List.length_append, List.length_singleton]; omega⟩, HRD, H8D, ⟨by rw [HZ.out, HZ2.out, List.append_assoc]; rfl⟩, HO5, HB5⟩
        · have hTk : decide (k > 0) = false := decide_eq_false hk
          obtain rfl : n = L.length := by rw [← hcut, if_neg (fun h => h3 h.1), if_neg hk]
          go_wp2_with (first | (go_at_call 14; refine (HF1.out _ HB.out).mono ?_; rintro e w2 ⟨rfl, hb⟩; have HB2 := Aside0.mk (below_then HB.out HB.out.size hb); have HO2 := Aside0.mk (Kd.S_below HO.out hb); clear hb))
          refine start_ (n := 12) (S := fun w' => True) (ds := [4, 5, 6]) #[false, false, false, false, false, false, false, false, false, false, false, false] (by kernel_rfl) rfl rfl trivial (fun hHeld => ?_)
          refine pure_ (i := 0) (N := some 31) (v := ?_) (a' := ?_) #[true, false, false, false, false, false, false, false, false, false, false, false] rfl rfl (by kernel_rfl) (fun _ _ _ h => h) (Or.inl ⟨by rfl, ?_⟩) ?_ ?_
          rotate_left
          · intro w'
            go_simp
            with_reducible rfl
          rotate_left
          · simp only [Act.put, List.setIfInBounds_toArray, List.set_cons_zero, List.set_cons_succ, i64_w, i32_w]
            rfl
          refine pure_ (i := 1) (N := some 32) (v := ?_) (a' := ?_) #[true, true, false, false, false, false, false, false, false, false, false, false] rfl rfl (by kernel_rfl) (fun _ _ _ h => h) (Or.inl ⟨by rfl, ?_⟩) ?_ ?_
          rotate_left
          · intro w'
            go_simp
            with_reducible rfl
          rotate_left
          · simp only [Act.put, List.setIfInBounds_toArray, List.set_cons_zero, List.set_cons_succ, i64_w, i32_w]
            rfl
          refine pure_ (i := 2) (N := some 33) (v := ?_) (a' := ?_) #[true, true, true, false, false, false, false, false, false, false, false, false] rfl rfl (by kernel_rfl) (fun _ _ _ h => h) (Or.inl ⟨by rfl, ?_⟩) ?_ ?_
          rotate_left
          · intro w'
            go_simp
            with_reducible rfl
          rotate_left
          · simp only [Act.put, List.setIfInBounds_toArray, List.set_cons_zero, List.set_cons_succ, i64_w, i32_w]
            rfl
          refine pure_ (i := 3) (N := some 34) (v := ?_) (a' := ?_) #[true, true, true, true, false, false, false, false, false, false, false, false] rfl rfl (by kernel_rfl) (fun _ _ _ h => h) (Or.inl ⟨by rfl, ?_⟩) ?_ ?_
          rotate_left
          · intro w'
            go_simp
            with_reducible rfl
          rotate_left
          · simp only [Act.put, List.setIfInBounds_toArray, List.set_cons_zero, List.set_cons_succ, i64_w, i32_w]
            rfl
          refine pure_ (i := 7) (N := some 38) (v := ?_) (a' := ?_) #[true, true, true, true, false, false, false, true, false, false, false, false] rfl rfl (by kernel_rfl) (fun _ _ _ h => h) (Or.inl ⟨by rfl, ?_⟩) ?_ ?_
          rotate_left
          · intro w'
            go_simp
            with_reducible rfl
          rotate_left
          · simp only [Act.put, List.setIfInBounds_toArray, List.set_cons_zero, List.set_cons_succ, i64_w, i32_w]
            rfl
          refine pure_ (i := 8) (N := some 39) (v := ?_) (a' := ?_) #[true, true, true, true, false, false, false, true, true, false, false, false] rfl rfl (by kernel_rfl) (fun _ _ _ h => h) (Or.inl ⟨by rfl, ?_⟩) ?_ ?_
          rotate_left
          · intro w'
            go_simp
            with_reducible rfl
          rotate_left
          · simp only [Act.put, List.setIfInBounds_toArray, List.set_cons_zero, List.set_cons_succ, i64_w, i32_w]
            rfl
          refine pure_ (i := 9) (N := some 40) (v := ?_) (a' := ?_) #[true, true, true, true, false, false, false, true, true, true, false, false] rfl rfl (by kernel_rfl) (fun _ _ _ h => h) (Or.inl ⟨by rfl, ?_⟩) ?_ ?_
          rotate_left
          · intro w'
            go_simp
            with_reducible rfl
          rotate_left
          · simp only [Act.put, List.setIfInBounds_toArray, List.set_cons_zero, List.set_cons_succ, i64_w, i32_w]
            rfl
          refine last_ (i := 4) (N := some 35) #[true, true, true, true, true, false, false, true, true, true, false, false] rfl rfl (by kernel_rfl) (by decide) (fun K hK => ?_)
          refine Kd.R_append_rows_step (Kd.int .u8) (w0 := w2) w2.heap.size (by rfl) (.const (.slice none 0 0)) (.tmp 34) 22 5 (.int .u8 0) 1 (by rfl) Try.underlying22 info5k rfl (by decide) (by omega) _ [] T _ _ _ (fun _ => True) (fun _ => False) (by rfl) (by rfl) (Kd.R_nil _ _ _ _ _) (Kd.C_below HRT.out (below_drew HB2.out)) (fun _ _ h => h) (fun _ h => h.elim) (fun _ _ => trivial) (below_drew (Below.refl _ _)) (Nat.le_refl _) (by have := HTL.out; have := HL.out; have := HCP.out; simp; omega) ?_
          intro v4 w4 ho hb hg4 hat
          rw [List.nil_append] at ho
          obtain ⟨A4, c4, rfl⟩ := Kd.R_slice ho
          have HO4 := Aside0.mk ho
          have HB4 := Aside0.mk hb
          clear ho hb hg4 hat
          refine hK.out _ _ ?_
          clear hK K
          refine norm_ (a' := ?_) ?_ ?_
          rotate_left
          · show Act.put _ (some 35) _ = _
            simp only [Act.put, List.setIfInBounds_toArray, List.set_cons_zero, List.set_cons_succ, i64_w, i32_w]
            rfl
          refine last_ (i := 5) (N := some 36) #[true, true, true, true, true, true, false, true, true, true, false, false] rfl rfl (by kernel_rfl) (by decide) (fun K hK => ?_)
          refine value_ (w1 := ?_) (v := ?_) (by rfl) rfl ?_ ?_
          rotate_left 2
          · go_simp
            constructor
            · rfl
            · rfl
          refine hK.out _ _ ?_
          clear hK K
          refine norm_ (a' := ?_) ?_ ?_
          rotate_left
          · show Act.put _ (some 36) _ = _
            simp only [Act.put, List.setIfInBounds_toArray, List.set_cons_zero, List.set_cons_succ, i64_w, i32_w]
            rfl
          refine last_ (i := 6) (N := some 37) #[true, true, true, true, true, true, true, true, true, true, false, false] rfl rfl (by kernel_rfl) (by decide) (fun K hK => ?_)
          refine Kd.S_append_step (Kd.slice 5 (Kd.int .u8)) (w0 := w) w.heap.size (by rfl) (.tmp 31) (.tmp 36) 65 22 (.slice none 0 0) 24 (by rfl) Try.underlying65 infoBs rfl (by decide) (by omega) u3 out T [.slice A4 T.length c4] (fun _ => True) (fun k => w2.heap.size ≤ k) (by rfl) (by rfl) (Kd.M_row (Kd.R_lower (Kd.R_mono (Kd.R_bound HO4.out) (fun k hk => hk.2.1)) HB2.out.size)) (fun k hk => ⟨trivial, fun e => by have := Kd.S_lt HO2.out k e.symm; omega⟩) (fun _ _ => trivial) (Kd.S_mono (Kd.S_below (Kd.S_bound HO2.out) HB4.out) (fun k hk => ⟨trivial, by have := hk.2.2.1; omega⟩)) (below_then HB2.out HB2.out.size HB4.out) (Nat.le_trans HB2.out.size HB4.out.size) (by have := HL.out; omega) ?_
          intro v5 w5 ho hb hg5 hat
          have HO5 := Aside0.mk ho
          have HB5 := Aside0.mk hb
          clear ho hb hg5 hat
          refine hK.out _ _ ?_
          clear hK K
          refine norm_ (a' := ?_) ?_ ?_
          rotate_left
          · show Act.put _ (some 37) _ = _
            simp only [Act.put, List.setIfInBounds_toArray, List.set_cons_zero, List.set_cons_succ, i64_w, i32_w]
            rfl
          refine pure_ (i := 10) (N := some 3) (v := ?_) (a' := ?_) #[true, true, true, true, true, true, true, true, true, true, true, false] rfl rfl (by kernel_rfl) (fun _ _ _ h => h) (Or.inl ⟨by rfl, ?_⟩) ?_ ?_
          rotate_left
          · intro w'
            go_simp
            with_reducible rfl
          rotate_left
          · simp only [Act.put, List.setIfInBounds_toArray, List.set_cons_zero, List.set_cons_succ, i64_w, i32_w]
            rfl
          refine pure_ (i := 11) (N := some 0) (v := ?_) (a' := ?_) #[true, true, true, true, true, true, true, true, true, true, true, true] rfl rfl (by kernel_rfl) (fun _ _ _ h => h) (Or.inl ⟨by rfl, ?_⟩) ?_ ?_
          rotate_left
          · intro w'
            go_simp
            with_reducible rfl
          rotate_left
          · simp only [Act.put, List.setIfInBounds_toArray, List.set_cons_zero, List.set_cons_succ, i64_w, i32_w]
            rfl
          refine done_ (by kernel_rfl) ?_
          all_goals go_wp2
          go_roundg (D.length + 1)
          case measure => have := HK.out; have := HTL.out; have := HCP.out; omega
          case rel => exact ⟨A2, _, D, out ++ [T], rfl, ⟨rfl⟩, ⟨HTL.out.2.2.1, by have := HL.out; have := HTL.out; omega, by have := HL.out; have := HTL.out; have := HCP.out; rw [List.length_append, List.length_singleton]; omega⟩, HRD, H8D, ⟨by rw [HZ.out, HZ2.out, List.append_assoc]; rfl⟩, HO5, HB5⟩
end Go.Proofs.Ytglcopljhanhmaa
