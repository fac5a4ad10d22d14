/- num.Size, num.Add, num.Sub, num.New and the reference's answers for layer 1. -/
import Derived.Test.YtpephndecdkfhaaNumB
namespace Go.Proofs.Ytpephndecdkfhaa
open Go.RowKit Go.Proofs.YtpephndecdkfhaaW.PrintWords Go.Proofs.YtpephndecdkfhaaW.PrintLast Go.Proofs.YtpephndecdkfhaaW.PrintMore
set_option linter.unusedVariables false
set_option linter.unusedSimpArgs false

set_option maxRecDepth 100000 in
set_option maxHeartbeats 400000 in
theorem Size_any (n : Int) (w : World) (h0 : 0 ≤ n) (h1 : n < 18446744073709551616) :
    Calls Try.prog 22 #[.int .u64 n] w fun r w' => r = .returned (.int .i64 (encN n).length) ∧ w' = w := by
  have HL := Aside0.mk (encN_len10 n h1)
  have H1 := Aside0.mk h1
  clear h1
  go_enter Try.func22, Try.ntmps22
  go_wp2
  go_loop [0, 3] (fun v0 v3 => ∃ (m : Int) (k : Nat), v0 = .int .u64 m ∧ v3 = .int .i64 k ∧ 0 ≤ m ∧ 1 ≤ k ∧ Aside0 (m < 18446744073709551616 ∧ k + (encN m).length = (encN n).length + 1)) (fun v0 _ => (intOf v0).toNat)
  case atStart => exact ⟨n, 1, rfl, rfl, h0, Nat.le_refl _, ⟨H1.out, by omega⟩⟩
  case round =>
    obtain ⟨m, k, rfl, rfl, hm0, hk, HI⟩ := hrel
    have hp := encN_pos m
    have hk10 : k ≤ 10 := by have := HI.out.2; have := HL.out; omega
    by_cases hbig : m < 128
    · have hb1 : decide (127 < m) = false := by simp; omega
      have HE := Aside0.mk (show (k : Int) = (encN n).length by have := HI.out.2; rw [encN_small hbig] at this; simp at this; omega)
      clear hp
      go_wp2
      go_ret
      exact ⟨ret_int HE.out, rfl⟩
    · have hb1 : decide (127 < m) = true := by simp; omega
      have HE := Aside0.mk (show (k + 1) + (encN (m / 128)).length = (encN n).length + 1 by have := HI.out.2; rw [encN_big hbig] at this; simp at this; omega)
      clear hp
      go_wp2
      go_round
      case rel => exact ⟨m / 128, k + 1, rfl, by go_num, by omega, by omega, ⟨by have := HI.out.1; omega, HE.out⟩⟩
      case measure => simp [intOf]; omega

def addN (a b : Int) : Int := if a + b < 18446744073709551616 then a + b else 18446744073709551615
def subN (a b : Int) : Int := if b ≤ a then a - b else 0

set_option maxHeartbeats 400000 in
theorem Add_any (a b : Int) (w : World) (a0 : 0 ≤ a) (a1 : a < 18446744073709551616) (b0 : 0 ≤ b) (b1 : b < 18446744073709551616) :
    Calls Try.prog 13 #[.int .u64 a, .int .u64 b] w fun r w' => r = .returned (.int .u64 (addN a b)) ∧ w' = w := by
  by_cases h : a + b < 18446744073709551616
  · have H := Aside0.mk (show addN a b = IntKind.u64.wrap (a + b) by rw [addN, if_pos h, IntKind.wrap_u64]; omega)
    have hd : decide (IntKind.u64.wrap (18446744073709551615 - b) < a) = false := by rw [IntKind.wrap_u64]; simp; omega
    clear h a0 a1 b0 b1
    go_enter Try.func13, Try.ntmps13
    go_wp2
    go_ret
    exact ⟨ret_int H.out.symm, rfl⟩
  · have H := Aside0.mk (show addN a b = 18446744073709551615 by rw [addN, if_neg h])
    have hd : decide (IntKind.u64.wrap (18446744073709551615 - b) < a) = true := by rw [IntKind.wrap_u64]; simp; omega
    clear h a0 a1 b0 b1
    go_enter Try.func13, Try.ntmps13
    go_wp2
    go_ret
    exact ⟨ret_int H.out.symm, rfl⟩

set_option maxHeartbeats 400000 in
theorem Sub_any (a b : Int) (w : World) (a0 : 0 ≤ a) (a1 : a < 18446744073709551616) (b0 : 0 ≤ b) (b1 : b < 18446744073709551616) :
    Calls Try.prog 14 #[.int .u64 a, .int .u64 b] w fun r w' => r = .returned (.int .u64 (subN a b)) ∧ w' = w := by
  by_cases h : b ≤ a
  · have H := Aside0.mk (show subN a b = IntKind.u64.wrap (a - b) by rw [subN, if_pos h, IntKind.wrap_u64]; omega)
    have hd : decide (a < b) = false := by simp; omega
    clear h a0 a1 b0 b1
    go_enter Try.func14, Try.ntmps14
    go_wp2
    go_ret
    exact ⟨ret_int H.out.symm, rfl⟩
  · have H := Aside0.mk (show subN a b = 0 by rw [subN, if_neg h])
    have hd : decide (a < b) = true := by simp; omega
    clear h a0 a1 b0 b1
    go_enter Try.func14, Try.ntmps14
    go_wp2
    go_ret
    exact ⟨ret_int H.out.symm, rfl⟩

set_option maxHeartbeats 400000 in
theorem rAdd_any (a b : Int) (w : World) (a0 : 0 ≤ a) (a1 : a < 18446744073709551616) (b0 : 0 ≤ b) (b1 : b < 18446744073709551616) :
    Calls Try.prog 16 #[.int .u64 a, .int .u64 b] w fun r w' => r = .returned (.int .u64 (addN a b)) ∧ w' = w := by
  by_cases h : a + b < 18446744073709551616
  · have H := Aside0.mk (show addN a b = IntKind.u64.wrap (a + b) by rw [addN, if_pos h, IntKind.wrap_u64]; omega)
    have hd : decide (IntKind.u64.wrap (a + b) < a) = false := by rw [IntKind.wrap_u64]; simp; omega
    clear h a0 a1 b0 b1
    go_enter Try.func16, Try.ntmps16
    go_wp2
    go_ret
    exact ⟨ret_int H.out.symm, rfl⟩
  · have H := Aside0.mk (show addN a b = 18446744073709551615 by rw [addN, if_neg h])
    have hd : decide (IntKind.u64.wrap (a + b) < a) = true := by rw [IntKind.wrap_u64]; simp; omega
    clear h a0 a1 b0 b1
    go_enter Try.func16, Try.ntmps16
    go_wp2
    go_ret
    exact ⟨ret_int H.out.symm, rfl⟩

set_option maxHeartbeats 400000 in
theorem rSub_any (a b : Int) (w : World) (a0 : 0 ≤ a) (a1 : a < 18446744073709551616) (b0 : 0 ≤ b) (b1 : b < 18446744073709551616) :
    Calls Try.prog 17 #[.int .u64 a, .int .u64 b] w fun r w' => r = .returned (.int .u64 (subN a b)) ∧ w' = w := by
  by_cases h : b ≤ a
  · have H := Aside0.mk (show subN a b = IntKind.u64.wrap (a - b) by rw [subN, if_pos h, IntKind.wrap_u64]; omega)
    have hd : decide (a < b) = false := by simp; omega
    clear h a0 a1 b0 b1
    go_enter Try.func17, Try.ntmps17
    go_wp2
    go_ret
    exact ⟨ret_int H.out.symm, rfl⟩
  · have H := Aside0.mk (show subN a b = 0 by rw [subN, if_neg h])
    have hd : decide (a < b) = true := by simp; omega
    clear h a0 a1 b0 b1
    go_enter Try.func17, Try.ntmps17
    go_wp2
    go_ret
    exact ⟨ret_int H.out.symm, rfl⟩

theorem strOfNums_inj {a b : List Int} (ha : In8 a) (hb : In8 b) : ((strOfNums a).toList == (strOfNums b).toList) = decide (a = b) := by
  have e : ∀ l : List Int, (strOfNums l).toList = l.map fun n => UInt8.ofNat n.toNat := by
    intro l
    rw [ByteArray.toList_eq]
    simp [strOfNums]
  rw [e, e]
  have key : ∀ a b : List Int, In8 a → In8 b → a.map (fun n => UInt8.ofNat n.toNat) = b.map (fun n => UInt8.ofNat n.toNat) → a = b := by
    intro a
    induction a with
    | nil => intro b _ _ h; cases b <;> simp_all
    | cons x r ih =>
      intro b ha hb h
      cases b with
      | nil => simp at h
      | cons y s =>
        simp only [List.map_cons, List.cons.injEq] at h
        have hx := ha x (by simp)
        have hy := hb y (by simp)
        have h1 := congrArg UInt8.toNat h.1
        simp only [UInt8.toNat_ofNat'] at h1
        rw [ih s (fun z hz => ha z (by simp [hz])) (fun z hz => hb z (by simp [hz])) h.2, show x = y by omega]
  by_cases h : a = b
  · subst h; simp
  · have : ¬ a.map (fun n => UInt8.ofNat n.toNat) = b.map (fun n => UInt8.ofNat n.toNat) := fun h2 => h (key a b ha hb h2)
    simp [h, this]

set_option maxHeartbeats 400000 in
theorem rSame_any (A B : Option Addr) (c d : Nat) (a b : List Int) (w : World) (hA : Kd.C (Kd.int .u8) w A a.length a) (hB : Kd.C (Kd.int .u8) w B b.length b) (ha : In8 a) (hb : In8 b) :
    Calls Try.prog 19 #[.slice A a.length c, .slice B b.length d] w fun r w' => r = .returned (.bool (decide (a = b))) ∧ w' = w := by
  have H := Aside0.mk (strOfNums_inj ha hb)
  have hcv3 := Kd.C_string (P := Try.prog) (A := A) (c := c) Try.underlying27 Try.underlying5 Try.underlying9 hA
  have hcv4 := Kd.C_string (P := Try.prog) (A := B) (c := d) Try.underlying27 Try.underlying5 Try.underlying9 hB
  clear hA hB
  go_enter Try.func19, Try.ntmps19
  go_wp2
  go_ret
  exact ⟨ret_bool H.out, rfl⟩
end Go.Proofs.Ytpephndecdkfhaa
