/- KeygramTells: what its proof leads to. No condition. -/
import Derived.Test.YtpephndecdkfhaaKgBqKeygramTells
namespace Go.Proofs.Ytpephndecdkfhaa
open Go.RowKit Go.Proofs.YtpephndecdkfhaaW.PrintWords Go.Proofs.YtpephndecdkfhaaW.PrintLast Go.Proofs.YtpephndecdkfhaaW.PrintMore
set_option linter.unusedVariables false
set_option linter.unusedSimpArgs false
def kq (x y : List Int) : Bool := (strOfNums x).toList == (strOfNums y).toList
def kEq : List (List Int) → List (List Int) → Bool
  | [], [] => true
  | x :: xs, y :: ys => kq x y && kEq xs ys
  | _, _ => false
theorem kEq_len : ∀ {xs ys : List (List Int)}, ¬ xs.length = ys.length → kEq xs ys = false
  | [], [], h => absurd rfl h
  | [], _ :: _, _ => rfl
  | _ :: _, [], _ => rfl
  | x :: xs, y :: ys, h => by unfold kEq; rw [kEq_len (xs := xs) (ys := ys) (fun e => h (by simp [e]))]; simp
theorem kEq_at {xs ys : List (List Int)} {i : Nat} (h : i < xs.length) (h2 : i < ys.length) : kEq (xs.drop i) (ys.drop i) = (kq xs[i] ys[i] && kEq (xs.drop (i + 1)) (ys.drop (i + 1))) := by
  rw [List.drop_eq_getElem_cons h, List.drop_eq_getElem_cons h2]; rfl
theorem kEq_end {xs ys : List (List Int)} (h : xs.length = ys.length) : kEq (xs.drop xs.length) (ys.drop xs.length) = true := by
  rw [List.drop_eq_nil_of_le (Nat.le_refl _), List.drop_eq_nil_of_le (by omega)]; rfl
set_option maxRecDepth 100000 in
set_option maxHeartbeats 4000000 in
theorem Equal_any (A0 : Option Addr) (c0 : Nat) (l0 : List Int) (A1 : Option Addr) (c1 : Nat) (l1 : List Int) (w : World) (hr0 : Kd.C (Kd.int .u8) w A0 l0.length l0) (hr1 : Kd.C (Kd.int .u8) w A1 l1.length l1) :
    Calls Try.prog 62 #[.slice A0 l0.length c0, .slice A1 l1.length c1] w fun e w' => e = .returned (.bool (kq l0 l1)) ∧ Below w.heap.size w w' := by
  have hcv3 := Kd.C_string (P := Try.prog) (A := A0) (c := c0) Try.underlying27 Try.underlying5 Try.underlying9 hr0
  have hcv4 := Kd.C_string (P := Try.prog) (A := A1) (c := c1) Try.underlying27 Try.underlying5 Try.underlying9 hr1
  clear hr0 hr1
  go_enter Try.func62, Try.ntmps62
  go_wp2
  go_ret
  exact ⟨by first | rfl | (simp; done) | (simp [*]; done), (by repeat (first | exact Below.refl _ _ | apply below_alloc | apply pw_below_drewN | apply below_drew1 | (refine Below.setCell ?_ (by simp) _)))⟩
set_option maxRecDepth 100000 in
set_option maxHeartbeats 4000000 in
theorem EqualFunc_any (A : Option Addr) (c : Nat) (xs : List (List Int)) (B : Option Addr) (d : Nat) (ys : List (List Int)) (w : World) (hC : Kd.C (Kd.slice 5 (Kd.int .u8)) w A xs.length xs) (hD : Kd.C (Kd.slice 5 (Kd.int .u8)) w B ys.length ys) :
    Calls Try.prog 61 #[.slice A xs.length c, .slice B ys.length d, .func (.func 62) #[] #[]] w fun e w' => e = .returned (.bool (kEq xs ys)) ∧ Below w.heap.size w w' := by
  have hm1 := hC.2.1
  have hm2 := hD.2.1
  have HC := Aside0.mk hC
  have HD := Aside0.mk hD
  clear hC hD
  by_cases hlen : xs.length = ys.length
  case neg =>
    have hb : ((xs.length : Int) != (ys.length : Int)) = true := by simp; omega
    rw [kEq_len hlen]
    go_enter Try.func61, Try.ntmps61
    go_wp2
    go_ret
    exact ⟨rfl, (by repeat (first | exact Below.refl _ _ | apply below_alloc | apply pw_below_drewN | apply below_drew1 | (refine Below.setCell ?_ (by simp) _)))⟩
  case pos =>
    have hb : ((xs.length : Int) != (ys.length : Int)) = false := by simp; omega
    have HL := Aside0.mk hlen
    clear hlen
    go_enter Try.func61, Try.ntmps61
    go_wp2
    go_loopg [17] (xs.length + 1) (fun kx v17 w' => ∃ i : Nat, v17 = .int .i64 i ∧ i ≤ xs.length ∧ Aside0 (kx = xs.length + 1 - i) ∧ Aside0 (kEq (xs.drop i) (ys.drop i) = kEq xs ys) ∧ Aside0 (Below w.heap.size w w'))
    case atStart => exact ⟨0, rfl, Nat.zero_le _, ⟨rfl⟩, ⟨rfl⟩, ⟨(by repeat (first | exact Below.refl _ _ | apply below_alloc | apply pw_below_drewN | apply below_drew1 | (refine Below.setCell ?_ (by simp) _)))⟩⟩
    case round =>
      obtain ⟨i, rfl, hi, HK, HG, HB⟩ := hrel
      by_cases hlt : i < xs.length
      · have hlt2 : i < ys.length := by have := HL.out; omega
        obtain ⟨ad, cs, rfl, hcl, hK, hcc⟩ := Kd.C_get (Kd.C_below HC.out HB.out) ([] : List Int) (i : Int) (by omega) (by omega)
        obtain ⟨Ak, ck, rfl, hck, hCk⟩ := hK
        obtain ⟨ad2, cs2, rfl, hcl2, hK2, hcc2⟩ := Kd.C_get (Kd.C_below HD.out HB.out) ([] : List Int) (i : Int) (by omega) (by omega)
        obtain ⟨Am, cm, rfl, hcm, hCm⟩ := hK2
        have hcell : wr.cell? (ad.add i) = some (.slice Ak (xs.getD (i : Int).toNat []).length ck) := by have := hcc 0 _ rfl; simpa [Kd.slice] using this
        have hcell2 : wr.cell? (ad2.add i) = some (.slice Am (ys.getD (i : Int).toNat []).length cm) := by have := hcc2 0 _ rfl; simpa [Kd.slice] using this
        have hkk : xs.getD (i : Int).toNat [] = xs[i] := by rw [Int.toNat_natCast, List.getD_eq_getElem?_getD, List.getElem?_eq_getElem hlt]; rfl
        have hmm : ys.getD (i : Int).toNat [] = ys[i] := by rw [Int.toNat_natCast, List.getD_eq_getElem?_getD, List.getElem?_eq_getElem hlt2]; rfl
        rw [hkk] at hcell hCk
        rw [hmm] at hcell2 hCm
        have hat := kEq_at hlt hlt2
        obtain ⟨x, hx⟩ : ∃ x, xs[i] = x := ⟨_, rfl⟩
        obtain ⟨y, hy⟩ : ∃ x, ys[i] = x := ⟨_, rfl⟩
        rw [hx] at hcell hCk hat
        rw [hy] at hcell2 hCm hat
        have HCk := Aside0.mk hCk
        have HCm := Aside0.mk hCm
        have HAT := Aside0.mk hat
        clear hcc hcc2 hcl hcl2 hCk hCm hkk hmm hat hx hy hck hcm
        cases hq : kq x y
        · have HQ := Aside0.mk hq
          clear hq
          go_wp2_with (go_at_call 62; (refine (Equal_any Ak ck x Am cm y _ (Kd.C_below HCk.out (by repeat (first | exact Below.refl _ _ | apply below_alloc | apply pw_below_drewN | apply below_drew1 | (refine Below.setCell ?_ (by simp) _)))) (Kd.C_below HCm.out (by repeat (first | exact Below.refl _ _ | apply below_alloc | apply pw_below_drewN | apply below_drew1 | (refine Below.setCell ?_ (by simp) _))))).mono ?_); rintro e w2 ⟨rfl, hb2⟩; rw [HQ.out]; have HB2 := Aside0.mk (below_then HB.out HB.out.size (below_step (by repeat (first | exact Below.refl _ _ | apply below_alloc | apply pw_below_drewN | apply below_drew1 | (refine Below.setCell ?_ (by simp) _))) hb2)); clear hb2)
          go_ret
          exact ⟨by rw [← HG.out, HAT.out, HQ.out]; rfl, HB2.out⟩
        · have HQ := Aside0.mk hq
          clear hq
          go_wp2_with (go_at_call 62; (refine (Equal_any Ak ck x Am cm y _ (Kd.C_below HCk.out (by repeat (first | exact Below.refl _ _ | apply below_alloc | apply pw_below_drewN | apply below_drew1 | (refine Below.setCell ?_ (by simp) _)))) (Kd.C_below HCm.out (by repeat (first | exact Below.refl _ _ | apply below_alloc | apply pw_below_drewN | apply below_drew1 | (refine Below.setCell ?_ (by simp) _))))).mono ?_); rintro e w2 ⟨rfl, hb2⟩; rw [HQ.out]; have HB2 := Aside0.mk (below_then HB.out HB.out.size (below_step (by repeat (first | exact Below.refl _ _ | apply below_alloc | apply pw_below_drewN | apply below_drew1 | (refine Below.setCell ?_ (by simp) _))) hb2)); clear hb2)
          go_roundg (xs.length + 1 - (i + 1))
          case measure => have := HK.out; omega
          case rel => exact ⟨i + 1, by go_num, by omega, ⟨rfl⟩, ⟨by rw [← HG.out, HAT.out, HQ.out]; rfl⟩, HB2⟩
      · obtain rfl : i = xs.length := by omega
        clear hlt hi
        go_wp2
        go_ret
        exact ⟨by rw [← HG.out, kEq_end HL.out]; rfl, HB.out⟩
/-- Are grams the same? -/
def sameG (a0 a1 a2 a3 a4 : Int) (xs : List (List Int)) (b0 b1 b2 b3 b4 : Int) (ys : List (List Int)) : Bool := (a0 == b0) && (a1 == b1) && (a2 == b2) && (a3 == b3) && (a4 == b4) && kEq xs ys
set_option maxRecDepth 100000 in
set_option maxHeartbeats 4000000 in
theorem kgSame_any (a0 a1 a2 a3 a4 : Int) (A : Option Addr) (c : Nat) (xs : List (List Int)) (b0 b1 b2 b3 b4 : Int) (B : Option Addr) (d : Nat) (ys : List (List Int)) (w : World) (hC : Kd.C (Kd.slice 5 (Kd.int .u8)) w A xs.length xs) (hD : Kd.C (Kd.slice 5 (Kd.int .u8)) w B ys.length ys) :
    Calls Try.prog 50 #[.agg #[.int .u64 a0, .int .u64 a1, .int .i64 a2, .int .i64 a3, .int .u64 a4, .slice A xs.length c], .agg #[.int .u64 b0, .int .u64 b1, .int .i64 b2, .int .i64 b3, .int .u64 b4, .slice B ys.length d]] w fun e w' => e = .returned (.bool (sameG a0 a1 a2 a3 a4 xs b0 b1 b2 b3 b4 ys)) ∧ Below w.heap.size w w' := by
  have hu := Try.underlying66
  have HC := Aside0.mk hC
  have HD := Aside0.mk hD
  clear hC hD
  cases h0 : (a0 == b0)
  · go_enter Try.func50, Try.ntmps50
    go_wp2
    go_ret
    exact ⟨by simp [sameG, *], (by repeat (first | exact Below.refl _ _ | apply below_alloc | apply pw_below_drewN | apply below_drew1 | (refine Below.setCell ?_ (by simp) _)))⟩
  · have _ := True.intro
    cases h1 : (a1 == b1)
    · go_enter Try.func50, Try.ntmps50
      go_wp2
      go_ret
      exact ⟨by simp [sameG, *], (by repeat (first | exact Below.refl _ _ | apply below_alloc | apply pw_below_drewN | apply below_drew1 | (refine Below.setCell ?_ (by simp) _)))⟩
    · have _ := True.intro
      cases h2 : (a2 == b2)
      · go_enter Try.func50, Try.ntmps50
        go_wp2
        go_ret
        exact ⟨by simp [sameG, *], (by repeat (first | exact Below.refl _ _ | apply below_alloc | apply pw_below_drewN | apply below_drew1 | (refine Below.setCell ?_ (by simp) _)))⟩
      · have _ := True.intro
        cases h3 : (a3 == b3)
        · go_enter Try.func50, Try.ntmps50
          go_wp2
          go_ret
          exact ⟨by simp [sameG, *], (by repeat (first | exact Below.refl _ _ | apply below_alloc | apply pw_below_drewN | apply below_drew1 | (refine Below.setCell ?_ (by simp) _)))⟩
        · have _ := True.intro
          cases h4 : (a4 == b4)
          · go_enter Try.func50, Try.ntmps50
            go_wp2
            go_ret
            exact ⟨by simp [sameG, *], (by repeat (first | exact Below.refl _ _ | apply below_alloc | apply pw_below_drewN | apply below_drew1 | (refine Below.setCell ?_ (by simp) _)))⟩
          · have _ := True.intro
            go_enter Try.func50, Try.ntmps50
            go_wp2_with (go_at_call 61; (refine (EqualFunc_any A c xs B d ys _ (Kd.C_below HC.out (by repeat (first | exact Below.refl _ _ | apply below_alloc | apply pw_below_drewN | apply below_drew1 | (refine Below.setCell ?_ (by simp) _)))) (Kd.C_below HD.out (by repeat (first | exact Below.refl _ _ | apply below_alloc | apply pw_below_drewN | apply below_drew1 | (refine Below.setCell ?_ (by simp) _))))).mono ?_); rintro e w2 ⟨rfl, hb2⟩; have HB2 := Aside0.mk (show Below w.heap.size w w2 from below_step (by repeat (first | exact Below.refl _ _ | apply below_alloc | apply pw_below_drewN | apply below_drew1 | (refine Below.setCell ?_ (by simp) _))) hb2); clear hb2)
            go_ret
            exact ⟨by simp [sameG, *], HB2.out⟩
end Go.Proofs.Ytpephndecdkfhaa
