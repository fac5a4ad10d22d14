/- GridPlays: what its proof leads to. No condition. -/
import Derived.Test.YtblcmcdifgclcaaGreatG8qGridPlays
import Derived.Test.YtblcmcdifgclcaaGreatG6qGridPlays
namespace Go.Proofs.YtblcmcdifgclcaaGreat
open Go.RowKit Go.Proofs.YtblcmcdifgclcaaGreatW.PrintWords Go.Proofs.YtblcmcdifgclcaaGreatW.PrintLast Go.Proofs.YtblcmcdifgclcaaGreatW.PrintMore
set_option linter.unusedVariables false
set_option linter.unusedSimpArgs false
def idxF (p : Int → Bool) : List Int → Int
 | [] => -1
 | x :: t => if p x = true then 0 else if idxF p t < 0 then -1 else idxF p t + 1
theorem Mark_any (r : Int) (w : World) : Calls Tryz.prog 102 #[.int .i32 r] w fun e w' => e = .returned (.bool (wOf r == 0)) ∧ Below w.heap.size w w' := by
 go_enter Tryz.func102, Tryz.ntmps102
 go_wp2_with (go_at_call 55; refine (Of_any r _).mono ?_; rintro e w1 ⟨rfl, hb⟩; have HB := aS hb; clear hb)
 go_ret
 exact ⟨rfl, HB.out⟩
theorem none_any (r : Int) (w : World) : Calls Tryz.prog 98 #[.int .i32 r] w fun e w' => e = .returned (.bool (r == 0)) ∧ Below w.heap.size w w' := by
 go_enter Tryz.func98, Tryz.ntmps98
 go_wp2
 go_ret
 exact ⟨rfl, Below.refl _ _⟩
theorem notmark_any (r : Int) (w : World) : Calls Tryz.prog 101 #[.int .i32 r] w fun e w' => e = .returned (.bool (!(wOf r == 0))) ∧ Below w.heap.size w w' := by
 go_enter Tryz.func101, Tryz.ntmps101
 go_wp2_with (go_at_call 102; refine (Mark_any r _).mono ?_; rintro e w1 ⟨rfl, hb⟩; have HB := aS hb; clear hb)
 go_ret
 exact ⟨rfl, HB.out⟩
theorem notnone_any (g : Nat) (r : Int) (w : World) (hc : w.cell? ⟨g, 0, none⟩ = some (.func (.func 98) #[] #[])) : Calls Tryz.prog 103 #[.int .i32 r, .pointer (some ⟨g, 0, none⟩)] w fun e w' => e = .returned (.bool (!(r == 0))) ∧ Below w.heap.size w w' := by
 go_enter Tryz.func103, Tryz.ntmps103
 go_wp2
 go_ret
 exact ⟨rfl, Below.refl _ _⟩
theorem idx_at {p : Int → Bool} {l : List Int} : ∀ {i : Nat}, i < l.length → (∀ j : Nat, j < i → p (rd l (j : Int)) = false) → p (rd l (i : Int)) = true → idxF p l = i := by
 induction l with
 | nil => intro i h; simp at h
 | cons x t ih =>
  intro i h hn hp
  match i with
  | 0 => rw [idxF, if_pos (by simpa [rd] using hp)]; rfl
  | i + 1 =>
   have h0 := hn 0 (by omega)
   have := ih (i := i) (by simpa using h) (fun j hj => by simpa [rd] using hn (j + 1) (by omega)) (by simpa [rd] using hp)
   rw [idxF, if_neg (by simpa [rd] using h0), this, if_neg (by omega)]; omega
theorem idx_none {p : Int → Bool} {l : List Int} : (∀ j : Nat, j < l.length → p (rd l (j : Int)) = false) → idxF p l = -1 := by
 induction l with
 | nil => intro _; rfl
 | cons x t ih =>
  intro hn
  have h0 := hn 0 (by simp)
  have := ih (fun j hj => by simpa [rd] using hn (j + 1) (by simpa using hj))
  rw [idxF, if_neg (by simpa [rd] using h0), this, if_pos (by omega)]
set_option maxHeartbeats 4000000 in
theorem IndexFunc_none (A : Option Addr) (c : Nat) (l : List Int) (w : World) (hC : (Kd.int .i32).C w A l.length l) (hl : l.length ≤ 1000) :
 Calls Tryz.prog 99 #[.slice A l.length c, (.func (.func 98) #[] #[])] w fun e w' => e = .returned (.int .i64 (idxF (fun r => r == 0) l)) ∧ Below w.heap.size w w' := by
 have HC := aS hC
 obtain ⟨z, hz⟩ : ∃ z, idxF (fun r => r == 0) l = z := ⟨_, rfl⟩
 rw [hz]
 have HZ := aS hz
 clear hC hz
 go_enter Tryz.func99, Tryz.ntmps99
 go_wp2
 go_loopg [8] (l.length + 1) (fun kq v8 w' => ∃ i : Nat, v8 = .int .i64 i ∧ i ≤ l.length ∧ Aside0 (kq = l.length + 1 - i) ∧ Aside0 (∀ j : Nat, j < i → (fun r => r == 0) (rd l (j : Int)) = false) ∧ Aside0 (Below w.heap.size w w'))
 case atStart => exact ⟨0, rfl, by omega, ⟨rfl⟩, ⟨fun j hj => by omega⟩, ⟨Below.refl _ _⟩⟩
 case round =>
  obtain ⟨i, rfl, hi, HK, HN, HB⟩ := hrel
  by_cases hlt : i < l.length
  ·obtain ⟨ad, rfl, hc0⟩ := Kd.at_int HC.out (i : Int) (by omega) (by omega)
   simp only [Int.toNat_natCast] at hc0
   replace hc0 := xc HB hc0
   obtain ⟨b, hb⟩ : ∃ b, (fun r => r == 0) (rd l (i : Int)) = b := ⟨_, rfl⟩
   have HP := aS hb
   clear hb
   cases b
   ·have HX := aS (show ∀ j : Nat, j < i + 1 → (fun r => r == 0) (rd l (j : Int)) = false from fun j hj => by
     by_cases e : j = i
     ·rw [e]; exact HP.out
     ·exact HN.out j (by omega))
    go_wp2_with (go_at_call 98; refine (none_any _ _).mono ?_; rintro e w1 ⟨rfl, hbb⟩; have hq := HP.out; simp only at hq; rw [hq]; have HBB := aS (below_step HB.out hbb); clear hq hbb)
    go_roundg (l.length + 1 - (i + 1))
    case measure => have := HK.out; omega
    case rel => exact ⟨i + 1, by go_num, by omega, ⟨rfl⟩, HX, HBB⟩
   ·have HX := aS (show z = (i : Int) by rw [← HZ.out]; exact idx_at hlt HN.out HP.out)
    go_wp2_with (go_at_call 98; refine (none_any _ _).mono ?_; rintro e w1 ⟨rfl, hbb⟩; have hq := HP.out; simp only at hq; rw [hq]; have HBB := aS (below_step HB.out hbb); clear hq hbb)
    go_ret
    exact ⟨by rw [HX.out]; rfl, HBB.out⟩
  ·obtain rfl : i = l.length := by omega
   have HX := aS (show z = -1 by rw [← HZ.out]; exact idx_none HN.out)
   clear hi hlt HN
   go_wp2
   go_ret
   exact ⟨by rw [HX.out]; rfl, HB.out⟩
set_option maxHeartbeats 4000000 in
theorem IndexFunc_notmark (A : Option Addr) (c : Nat) (l : List Int) (w : World) (hC : (Kd.int .i32).C w A l.length l) (hl : l.length ≤ 1000) :
 Calls Tryz.prog 99 #[.slice A l.length c, (.func (.func 101) #[] #[])] w fun e w' => e = .returned (.int .i64 (idxF (fun r => !(wOf r == 0)) l)) ∧ Below w.heap.size w w' := by
 have HC := aS hC
 obtain ⟨z, hz⟩ : ∃ z, idxF (fun r => !(wOf r == 0)) l = z := ⟨_, rfl⟩
 rw [hz]
 have HZ := aS hz
 clear hC hz
 go_enter Tryz.func99, Tryz.ntmps99
 go_wp2
 go_loopg [8] (l.length + 1) (fun kq v8 w' => ∃ i : Nat, v8 = .int .i64 i ∧ i ≤ l.length ∧ Aside0 (kq = l.length + 1 - i) ∧ Aside0 (∀ j : Nat, j < i → (fun r => !(wOf r == 0)) (rd l (j : Int)) = false) ∧ Aside0 (Below w.heap.size w w'))
 case atStart => exact ⟨0, rfl, by omega, ⟨rfl⟩, ⟨fun j hj => by omega⟩, ⟨Below.refl _ _⟩⟩
 case round =>
  obtain ⟨i, rfl, hi, HK, HN, HB⟩ := hrel
  by_cases hlt : i < l.length
  ·obtain ⟨ad, rfl, hc0⟩ := Kd.at_int HC.out (i : Int) (by omega) (by omega)
   simp only [Int.toNat_natCast] at hc0
   replace hc0 := xc HB hc0
   obtain ⟨b, hb⟩ : ∃ b, (fun r => !(wOf r == 0)) (rd l (i : Int)) = b := ⟨_, rfl⟩
   have HP := aS hb
   clear hb
   cases b
   ·have HX := aS (show ∀ j : Nat, j < i + 1 → (fun r => !(wOf r == 0)) (rd l (j : Int)) = false from fun j hj => by
     by_cases e : j = i
     ·rw [e]; exact HP.out
     ·exact HN.out j (by omega))
    go_wp2_with (go_at_call 101; refine (notmark_any _ _).mono ?_; rintro e w1 ⟨rfl, hbb⟩; have hq := HP.out; simp only at hq; rw [hq]; have HBB := aS (below_step HB.out hbb); clear hq hbb)
    go_roundg (l.length + 1 - (i + 1))
    case measure => have := HK.out; omega
    case rel => exact ⟨i + 1, by go_num, by omega, ⟨rfl⟩, HX, HBB⟩
   ·have HX := aS (show z = (i : Int) by rw [← HZ.out]; exact idx_at hlt HN.out HP.out)
    go_wp2_with (go_at_call 101; refine (notmark_any _ _).mono ?_; rintro e w1 ⟨rfl, hbb⟩; have hq := HP.out; simp only at hq; rw [hq]; have HBB := aS (below_step HB.out hbb); clear hq hbb)
    go_ret
    exact ⟨by rw [HX.out]; rfl, HBB.out⟩
  ·obtain rfl : i = l.length := by omega
   have HX := aS (show z = -1 by rw [← HZ.out]; exact idx_none HN.out)
   clear hi hlt HN
   go_wp2
   go_ret
   exact ⟨by rw [HX.out]; rfl, HB.out⟩
theorem ContainsFunc_notmark (A : Option Addr) (c : Nat) (l : List Int) (w : World) (hC : (Kd.int .i32).C w A l.length l) (hl : l.length ≤ 1000) :
 Calls Tryz.prog 100 #[.slice A l.length c, (.func (.func 101) #[] #[])] w fun e w' => e = .returned (.bool (decide (0 ≤ idxF (fun r => !(wOf r == 0)) l))) ∧ Below w.heap.size w w' := by
 have HQ := aS (IndexFunc_notmark A c l w hC hl)
 clear hC
 obtain ⟨z, hz⟩ : ∃ z, idxF (fun r => !(wOf r == 0)) l = z := ⟨_, rfl⟩
 rw [hz] at HQ ⊢
 go_enter Tryz.func100, Tryz.ntmps100
 go_wp2_with (go_at_call 99; refine HQ.out.mono ?_; rintro e w1 ⟨rfl, hbb⟩; have HBB := aS hbb; clear hbb)
 go_ret
 exact ⟨rfl, HBB.out⟩
set_option maxHeartbeats 4000000 in
theorem IndexFunc_notnone (g : Nat) (A : Option Addr) (c : Nat) (l : List Int) (w : World) (hC : (Kd.int .i32).C w A l.length l) (hl : l.length ≤ 1000) (hg : w.cell? ⟨g, 0, none⟩ = some (.func (.func 98) #[] #[])) :
 Calls Tryz.prog 99 #[.slice A l.length c, (.func (.func 103) #[] #[.pointer (some ⟨g, 0, none⟩)])] w fun e w' => e = .returned (.int .i64 (idxF (fun r => !(r == 0)) l)) ∧ Below w.heap.size w w' := by
 have HC := aS hC
 obtain ⟨z, hz⟩ : ∃ z, idxF (fun r => !(r == 0)) l = z := ⟨_, rfl⟩
 rw [hz]
 have HZ := aS hz
 clear hC hz
 have HG := aS hg
 have HGL := aS (World.block_lt_of_cell? w _ hg)
 clear hg
 go_enter Tryz.func99, Tryz.ntmps99
 go_wp2
 go_loopg [8] (l.length + 1) (fun kq v8 w' => ∃ i : Nat, v8 = .int .i64 i ∧ i ≤ l.length ∧ Aside0 (kq = l.length + 1 - i) ∧ Aside0 (∀ j : Nat, j < i → (fun r => !(r == 0)) (rd l (j : Int)) = false) ∧ Aside0 (Below w.heap.size w w'))
 case atStart => exact ⟨0, rfl, by omega, ⟨rfl⟩, ⟨fun j hj => by omega⟩, ⟨Below.refl _ _⟩⟩
 case round =>
  obtain ⟨i, rfl, hi, HK, HN, HB⟩ := hrel
  by_cases hlt : i < l.length
  ·obtain ⟨ad, rfl, hc0⟩ := Kd.at_int HC.out (i : Int) (by omega) (by omega)
   simp only [Int.toNat_natCast] at hc0
   replace hc0 := xc HB hc0
   have hg := (HB.out.cell HGL.out).trans HG.out
   obtain ⟨b, hb⟩ : ∃ b, (fun r => !(r == 0)) (rd l (i : Int)) = b := ⟨_, rfl⟩
   have HP := aS hb
   clear hb
   cases b
   ·have HX := aS (show ∀ j : Nat, j < i + 1 → (fun r => !(r == 0)) (rd l (j : Int)) = false from fun j hj => by
     by_cases e : j = i
     ·rw [e]; exact HP.out
     ·exact HN.out j (by omega))
    go_wp2_with (go_at_call 103; refine (notnone_any g _ _ (by assumption)).mono ?_; rintro e w1 ⟨rfl, hbb⟩; have hq := HP.out; simp only at hq; rw [hq]; have HBB := aS (below_step HB.out hbb); clear hq hbb)
    go_roundg (l.length + 1 - (i + 1))
    case measure => have := HK.out; omega
    case rel => exact ⟨i + 1, by go_num, by omega, ⟨rfl⟩, HX, HBB⟩
   ·have HX := aS (show z = (i : Int) by rw [← HZ.out]; exact idx_at hlt HN.out HP.out)
    go_wp2_with (go_at_call 103; refine (notnone_any g _ _ (by assumption)).mono ?_; rintro e w1 ⟨rfl, hbb⟩; have hq := HP.out; simp only at hq; rw [hq]; have HBB := aS (below_step HB.out hbb); clear hq hbb)
    go_ret
    exact ⟨by rw [HX.out]; rfl, HBB.out⟩
  ·obtain rfl : i = l.length := by omega
   have HX := aS (show z = -1 by rw [← HZ.out]; exact idx_none HN.out)
   clear hi hlt HN
   go_wp2
   go_ret
   exact ⟨by rw [HX.out]; rfl, HB.out⟩
theorem ContainsFunc_notnone (g : Nat) (A : Option Addr) (c : Nat) (l : List Int) (w : World) (hC : (Kd.int .i32).C w A l.length l) (hl : l.length ≤ 1000) (hg : w.cell? ⟨g, 0, none⟩ = some (.func (.func 98) #[] #[])) :
 Calls Tryz.prog 100 #[.slice A l.length c, (.func (.func 103) #[] #[.pointer (some ⟨g, 0, none⟩)])] w fun e w' => e = .returned (.bool (decide (0 ≤ idxF (fun r => !(r == 0)) l))) ∧ Below w.heap.size w w' := by
 have HQ := aS (IndexFunc_notnone g A c l w hC hl hg)
 clear hC hg
 obtain ⟨z, hz⟩ : ∃ z, idxF (fun r => !(r == 0)) l = z := ⟨_, rfl⟩
 rw [hz] at HQ ⊢
 go_enter Tryz.func100, Tryz.ntmps100
 go_wp2_with (go_at_call 99; refine HQ.out.mono ?_; rintro e w1 ⟨rfl, hbb⟩; have HBB := aS hbb; clear hbb)
 go_ret
 exact ⟨rfl, HBB.out⟩
end Go.Proofs.YtblcmcdifgclcaaGreat
