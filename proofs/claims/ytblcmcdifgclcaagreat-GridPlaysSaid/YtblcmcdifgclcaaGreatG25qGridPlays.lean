/- GridPlays: what its proof leads to. No condition. -/
import Derived.Test.YtblcmcdifgclcaaGreatG6qGridPlays
import Derived.Test.YtblcmcdifgclcaaGreatG23qGridPlays
import Derived.Test.YtblcmcdifgclcaaGreatG24qGridPlays
namespace Go.Proofs.YtblcmcdifgclcaaGreat.Grd
open Go.RowKit Go.Proofs.YtblcmcdifgclcaaGreat Go.Proofs.YtblcmcdifgclcaaGreat.PGridPlays Go.Proofs.YtblcmcdifgclcaaGreatW.PrintWords Go.Proofs.YtblcmcdifgclcaaGreatW.PrintLast Go.Proofs.YtblcmcdifgclcaaGreatW.PrintMore
set_option linter.unusedVariables false
set_option linter.unusedSimpArgs false
set_option maxRecDepth 100000
set_option maxHeartbeats 4000000
def LR (W : World) (l : List CS) (b : Bool) (e : Ending) (w' : World) : Prop :=
 ∃ A c, e = .returned (.tuple #[.slice A l.length c, .bool b]) ∧ l.length ≤ c ∧ Kd.F kCl w' (fun k => W.heap.size ≤ k) A l.length l ∧ Below W.heap.size W w'
theorem LR.ofR {W w' : World} {l : List CS} {b : Bool} {v : Value} (hR : Kd.R kCl tCl w' W.heap.size (fun _ => True) v l) (hb : Below W.heap.size W w') : LR W l b (.returned (.tuple #[v, .bool b])) w' := by
 obtain ⟨A, c, rfl, hc, -⟩ := Kd.R_reads hR
 exact ⟨A, c, rfl, hc, Kd.F_mono (Kd.R_F (Kd.R_bound hR)) (fun k hk => hk.2.1), hb⟩
section
variable {O : Nat → Prop} {W : World} {g : Nat} {G : GV}
theorem GS.turned {b cap n : Nat} {w' : World} (h : GS O W g G) (hx : W.heap[g]? = some (.cells #[.int .i64 G.row, .int .i64 G.col, .slice (some ⟨b, 0, none⟩) G.L.length cap, .int .i64 G.cols] 66 (0, 0))) (hL : GL W (fun k => O k ∧ k ≠ g) (.slice (some ⟨b, 0, none⟩) G.L.length cap) G.L) (hb : O b ∧ b ≠ g)
 (hbel : Below W.heap.size W w') {A : Option Addr} {c : Nat} {l : List CS} (hc : l.length ≤ c) (hF : Kd.F kCl w' (fun k => W.heap.size ≤ k) A l.length l) (hn : n < G.L.length) (hok : (gSet G (n : Int) l).ok) :
 Did O W (w'.setCell ⟨b, n, none⟩ (.slice A l.length c)) g (gSet G (n : Int) l) := by
 have hbl := h.ob b hb.1
 have hgl := h.ob g h.og
 have hFb := Kd.F_bound hF
 refine ⟨fun k => O k ∨ (W.heap.size ≤ k ∧ k < w'.heap.size), ⟨.inl h.og, fun k hk => ?_, hok, .slice (some ⟨b, 0, none⟩) G.L.length cap, ?_, ?_⟩, fun k hk => hk.imp id (fun h => h.1), ?_⟩
 ·show k < (w'.setCell _ _).heap.size
  have : (w'.setCell ⟨b, n, none⟩ (.slice A l.length c)).heap.size = w'.heap.size := by simp [World.setCell]
  rw [this]
  rcases hk with hk | hk
  ·exact Nat.lt_of_lt_of_le (h.ob k hk) hbel.size
  ·exact hk.2
 ·exact blk_far ((hbel.block g hgl).trans hx) (fun e => hb.2 e.symm) _
 ·have h1 : GL w' (fun k => O k ∧ k ≠ g) (.slice (some ⟨b, 0, none⟩) G.L.length cap) G.L := hL.step (fun k _ hk => hbel.block k hk)
  have h2 := (h1.mono (ok' := fun k => (O k ∨ (W.heap.size ≤ k ∧ k < w'.heap.size)) ∧ k ≠ g) (fun k hk => ⟨.inl hk.1, hk.2⟩)).store (i := n) hn hc (Kd.F_mono hFb (fun k hk => ⟨⟨.inr hk, by omega⟩, by omega⟩))
  show GL _ _ _ (G.L.set (n : Int).toNat l)
  rw [Int.toNat_natCast]
  exact h2
 ·exact (Wr.of_below hbel O).set (.inl hb.1) _
theorem turn57 (h : GS O W g G) (r : Int) (p q : Value) (l' : List CS) (b : Bool) (hok : gHas G r = true → b = true → (gSet G r l').ok)
 (hf : gHas G r = true → ∀ A c, Kd.C kCl W A (gLn G r).length (gLn G r) → (gLn G r).length ≤ c → Calls Tryz.prog 57 #[.slice A (gLn G r).length c, p, q] W (LR W l' b)) :
 Calls Tryz.prog 56 #[.pointer (some ⟨g, 0, none⟩), .int .i64 r, .func (.func 57) #[] #[p, q]] W fun e w' => e = .returned (.bool (gHas G r && b)) ∧ Did O W w' g (if gHas G r = true ∧ b = true then gSet G r l' else G) := by
 have HS := aS h
 by_cases hr : gHas G r = true
 ·obtain ⟨n, rfl, hn, hg⟩ := has_row hr
  obtain ⟨k, cap, hk, hkg, hcap, hx, hL, hrow⟩ := h.open_
  obtain ⟨A, c, hcl, hfz, hc, hF⟩ := hrow n _ hg
  have h2 := (blk_cell hx 2).trans rfl
  have HF := aS (hf hr A c (Kd.F_now hF) hc)
  have HX := aS (And.intro hx (And.intro hL (And.intro hk hkg)))
  have HO := aS (And.intro hn (hok hr))
  have HC := aS (And.intro (World.block_lt_of_cell? W _ hcl) (And.intro hcl hfz))
  have H2 := aS h2
  rw [hr]
  obtain ⟨l, hl⟩ : ∃ l, gLn G (n : Int) = l := ⟨_, rfl⟩
  rw [hl] at hcl HF HC
  have HR := aS hr
  clear h hx hrow hr hg hc hF hl hf hok hL hk hkg hfz
  cases b
  ·simp only [Bool.and_false, and_false, Bool.false_eq_true, if_false]
   go_enter Tryz.func56, Tryz.ntmps56
   go_wp2_with (first | (go_at_call 51; refine (has_any HS.out (n : Int)).mono ?_; rintro e w1 ⟨rfl, rfl⟩; rw [HR.out]) | (go_at_call 57; refine HF.out.mono ?_; rintro e w2 ⟨A2, c2, rfl, hc2, hF2, hb2⟩; have HW := aS hb2; clear hc2 hF2 hb2))
   all_goals go_ret
   all_goals exact ⟨rfl, HS.out.same.below HW.out⟩
  ·simp only [Bool.and_true, and_true, if_true]
   go_enter Tryz.func56, Tryz.ntmps56
   go_wp2_with (first | (go_at_call 51; refine (has_any HS.out (n : Int)).mono ?_; rintro e w1 ⟨rfl, rfl⟩; rw [HR.out]) | (go_at_call 57; refine HF.out.mono ?_; rintro e w2 ⟨A2, c2, rfl, hc2, hF2, hb2⟩; have HW := aS (And.intro hc2 (And.intro hF2 hb2)); have h22 := (hb2.cell (World.block_lt_of_cell? _ _ H2.out)).trans H2.out; have hk2 := (hb2.cell HC.out.1).trans HC.out.2.1; have hz2 := (hb2.frozen HC.out.1).trans HC.out.2.2; clear hc2 hF2 hb2))
   all_goals go_ret
   all_goals exact ⟨rfl, HS.out.turned HX.out.1 HX.out.2.1 HX.out.2.2 HW.out.2.2 HW.out.1 HW.out.2.1 HO.out.1 (HO.out.2 (by simp))⟩
 ·have HR := aS (Bool.eq_false_iff.2 hr)
  rw [HR.out]
  simp only [Bool.false_and, Bool.false_eq_true, false_and, if_false]
  clear h hr hf hok
  go_enter Tryz.func56, Tryz.ntmps56
  go_wp2_with (first | (go_at_call 51; refine (has_any HS.out r).mono ?_; rintro e w1 ⟨rfl, rfl⟩; rw [HR.out]))
  all_goals go_ret
  all_goals exact ⟨rfl, HS.out.same⟩
theorem turn68 (h : GS O W g G) (r : Int) (p q : Value) (l' : List CS) (b : Bool) (hok : gHas G r = true → b = true → (gSet G r l').ok)
 (hf : gHas G r = true → ∀ A c, Kd.C kCl W A (gLn G r).length (gLn G r) → (gLn G r).length ≤ c → Calls Tryz.prog 68 #[.slice A (gLn G r).length c, p, q] W (LR W l' b)) :
 Calls Tryz.prog 56 #[.pointer (some ⟨g, 0, none⟩), .int .i64 r, .func (.func 68) #[] #[p, q]] W fun e w' => e = .returned (.bool (gHas G r && b)) ∧ Did O W w' g (if gHas G r = true ∧ b = true then gSet G r l' else G) := by
 have HS := aS h
 by_cases hr : gHas G r = true
 ·obtain ⟨n, rfl, hn, hg⟩ := has_row hr
  obtain ⟨k, cap, hk, hkg, hcap, hx, hL, hrow⟩ := h.open_
  obtain ⟨A, c, hcl, hfz, hc, hF⟩ := hrow n _ hg
  have h2 := (blk_cell hx 2).trans rfl
  have HF := aS (hf hr A c (Kd.F_now hF) hc)
  have HX := aS (And.intro hx (And.intro hL (And.intro hk hkg)))
  have HO := aS (And.intro hn (hok hr))
  have HC := aS (And.intro (World.block_lt_of_cell? W _ hcl) (And.intro hcl hfz))
  have H2 := aS h2
  rw [hr]
  obtain ⟨l, hl⟩ : ∃ l, gLn G (n : Int) = l := ⟨_, rfl⟩
  rw [hl] at hcl HF HC
  have HR := aS hr
  clear h hx hrow hr hg hc hF hl hf hok hL hk hkg hfz
  cases b
  ·simp only [Bool.and_false, and_false, Bool.false_eq_true, if_false]
   go_enter Tryz.func56, Tryz.ntmps56
   go_wp2_with (first | (go_at_call 51; refine (has_any HS.out (n : Int)).mono ?_; rintro e w1 ⟨rfl, rfl⟩; rw [HR.out]) | (go_at_call 68; refine HF.out.mono ?_; rintro e w2 ⟨A2, c2, rfl, hc2, hF2, hb2⟩; have HW := aS hb2; clear hc2 hF2 hb2))
   all_goals go_ret
   all_goals exact ⟨rfl, HS.out.same.below HW.out⟩
  ·simp only [Bool.and_true, and_true, if_true]
   go_enter Tryz.func56, Tryz.ntmps56
   go_wp2_with (first | (go_at_call 51; refine (has_any HS.out (n : Int)).mono ?_; rintro e w1 ⟨rfl, rfl⟩; rw [HR.out]) | (go_at_call 68; refine HF.out.mono ?_; rintro e w2 ⟨A2, c2, rfl, hc2, hF2, hb2⟩; have HW := aS (And.intro hc2 (And.intro hF2 hb2)); have h22 := (hb2.cell (World.block_lt_of_cell? _ _ H2.out)).trans H2.out; have hk2 := (hb2.cell HC.out.1).trans HC.out.2.1; have hz2 := (hb2.frozen HC.out.1).trans HC.out.2.2; clear hc2 hF2 hb2))
   all_goals go_ret
   all_goals exact ⟨rfl, HS.out.turned HX.out.1 HX.out.2.1 HX.out.2.2 HW.out.2.2 HW.out.1 HW.out.2.1 HO.out.1 (HO.out.2 (by simp))⟩
 ·have HR := aS (Bool.eq_false_iff.2 hr)
  rw [HR.out]
  simp only [Bool.false_and, Bool.false_eq_true, false_and, if_false]
  clear h hr hf hok
  go_enter Tryz.func56, Tryz.ntmps56
  go_wp2_with (first | (go_at_call 51; refine (has_any HS.out r).mono ?_; rintro e w1 ⟨rfl, rfl⟩; rw [HR.out]))
  all_goals go_ret
  all_goals exact ⟨rfl, HS.out.same⟩
theorem turn73 (h : GS O W g G) (r : Int) (p q : Value) (l' : List CS) (b : Bool) (hok : gHas G r = true → b = true → (gSet G r l').ok)
 (hf : gHas G r = true → ∀ A c, Kd.C kCl W A (gLn G r).length (gLn G r) → (gLn G r).length ≤ c → Calls Tryz.prog 73 #[.slice A (gLn G r).length c, p, q] W (LR W l' b)) :
 Calls Tryz.prog 56 #[.pointer (some ⟨g, 0, none⟩), .int .i64 r, .func (.func 73) #[] #[p, q]] W fun e w' => e = .returned (.bool (gHas G r && b)) ∧ Did O W w' g (if gHas G r = true ∧ b = true then gSet G r l' else G) := by
 have HS := aS h
 by_cases hr : gHas G r = true
 ·obtain ⟨n, rfl, hn, hg⟩ := has_row hr
  obtain ⟨k, cap, hk, hkg, hcap, hx, hL, hrow⟩ := h.open_
  obtain ⟨A, c, hcl, hfz, hc, hF⟩ := hrow n _ hg
  have h2 := (blk_cell hx 2).trans rfl
  have HF := aS (hf hr A c (Kd.F_now hF) hc)
  have HX := aS (And.intro hx (And.intro hL (And.intro hk hkg)))
  have HO := aS (And.intro hn (hok hr))
  have HC := aS (And.intro (World.block_lt_of_cell? W _ hcl) (And.intro hcl hfz))
  have H2 := aS h2
  rw [hr]
  obtain ⟨l, hl⟩ : ∃ l, gLn G (n : Int) = l := ⟨_, rfl⟩
  rw [hl] at hcl HF HC
  have HR := aS hr
  clear h hx hrow hr hg hc hF hl hf hok hL hk hkg hfz
  cases b
  ·simp only [Bool.and_false, and_false, Bool.false_eq_true, if_false]
   go_enter Tryz.func56, Tryz.ntmps56
   go_wp2_with (first | (go_at_call 51; refine (has_any HS.out (n : Int)).mono ?_; rintro e w1 ⟨rfl, rfl⟩; rw [HR.out]) | (go_at_call 73; refine HF.out.mono ?_; rintro e w2 ⟨A2, c2, rfl, hc2, hF2, hb2⟩; have HW := aS hb2; clear hc2 hF2 hb2))
   all_goals go_ret
   all_goals exact ⟨rfl, HS.out.same.below HW.out⟩
  ·simp only [Bool.and_true, and_true, if_true]
   go_enter Tryz.func56, Tryz.ntmps56
   go_wp2_with (first | (go_at_call 51; refine (has_any HS.out (n : Int)).mono ?_; rintro e w1 ⟨rfl, rfl⟩; rw [HR.out]) | (go_at_call 73; refine HF.out.mono ?_; rintro e w2 ⟨A2, c2, rfl, hc2, hF2, hb2⟩; have HW := aS (And.intro hc2 (And.intro hF2 hb2)); have h22 := (hb2.cell (World.block_lt_of_cell? _ _ H2.out)).trans H2.out; have hk2 := (hb2.cell HC.out.1).trans HC.out.2.1; have hz2 := (hb2.frozen HC.out.1).trans HC.out.2.2; clear hc2 hF2 hb2))
   all_goals go_ret
   all_goals exact ⟨rfl, HS.out.turned HX.out.1 HX.out.2.1 HX.out.2.2 HW.out.2.2 HW.out.1 HW.out.2.1 HO.out.1 (HO.out.2 (by simp))⟩
 ·have HR := aS (Bool.eq_false_iff.2 hr)
  rw [HR.out]
  simp only [Bool.false_and, Bool.false_eq_true, false_and, if_false]
  clear h hr hf hok
  go_enter Tryz.func56, Tryz.ntmps56
  go_wp2_with (first | (go_at_call 51; refine (has_any HS.out r).mono ?_; rintro e w1 ⟨rfl, rfl⟩; rw [HR.out]))
  all_goals go_ret
  all_goals exact ⟨rfl, HS.out.same⟩
theorem turn70 (h : GS O W g G) (r : Int) (p q s : Value) (l' : List CS) (b : Bool) (hok : gHas G r = true → b = true → (gSet G r l').ok)
 (hf : gHas G r = true → ∀ A c, Kd.C kCl W A (gLn G r).length (gLn G r) → (gLn G r).length ≤ c → Calls Tryz.prog 70 #[.slice A (gLn G r).length c, p, q, s] W (LR W l' b)) :
 Calls Tryz.prog 56 #[.pointer (some ⟨g, 0, none⟩), .int .i64 r, .func (.func 70) #[] #[p, q, s]] W fun e w' => e = .returned (.bool (gHas G r && b)) ∧ Did O W w' g (if gHas G r = true ∧ b = true then gSet G r l' else G) := by
 have HS := aS h
 by_cases hr : gHas G r = true
 ·obtain ⟨n, rfl, hn, hg⟩ := has_row hr
  obtain ⟨k, cap, hk, hkg, hcap, hx, hL, hrow⟩ := h.open_
  obtain ⟨A, c, hcl, hfz, hc, hF⟩ := hrow n _ hg
  have h2 := (blk_cell hx 2).trans rfl
  have HF := aS (hf hr A c (Kd.F_now hF) hc)
  have HX := aS (And.intro hx (And.intro hL (And.intro hk hkg)))
  have HO := aS (And.intro hn (hok hr))
  have HC := aS (And.intro (World.block_lt_of_cell? W _ hcl) (And.intro hcl hfz))
  have H2 := aS h2
  rw [hr]
  obtain ⟨l, hl⟩ : ∃ l, gLn G (n : Int) = l := ⟨_, rfl⟩
  rw [hl] at hcl HF HC
  have HR := aS hr
  clear h hx hrow hr hg hc hF hl hf hok hL hk hkg hfz
  cases b
  ·simp only [Bool.and_false, and_false, Bool.false_eq_true, if_false]
   go_enter Tryz.func56, Tryz.ntmps56
   go_wp2_with (first | (go_at_call 51; refine (has_any HS.out (n : Int)).mono ?_; rintro e w1 ⟨rfl, rfl⟩; rw [HR.out]) | (go_at_call 70; refine HF.out.mono ?_; rintro e w2 ⟨A2, c2, rfl, hc2, hF2, hb2⟩; have HW := aS hb2; clear hc2 hF2 hb2))
   all_goals go_ret
   all_goals exact ⟨rfl, HS.out.same.below HW.out⟩
  ·simp only [Bool.and_true, and_true, if_true]
   go_enter Tryz.func56, Tryz.ntmps56
   go_wp2_with (first | (go_at_call 51; refine (has_any HS.out (n : Int)).mono ?_; rintro e w1 ⟨rfl, rfl⟩; rw [HR.out]) | (go_at_call 70; refine HF.out.mono ?_; rintro e w2 ⟨A2, c2, rfl, hc2, hF2, hb2⟩; have HW := aS (And.intro hc2 (And.intro hF2 hb2)); have h22 := (hb2.cell (World.block_lt_of_cell? _ _ H2.out)).trans H2.out; have hk2 := (hb2.cell HC.out.1).trans HC.out.2.1; have hz2 := (hb2.frozen HC.out.1).trans HC.out.2.2; clear hc2 hF2 hb2))
   all_goals go_ret
   all_goals exact ⟨rfl, HS.out.turned HX.out.1 HX.out.2.1 HX.out.2.2 HW.out.2.2 HW.out.1 HW.out.2.1 HO.out.1 (HO.out.2 (by simp))⟩
 ·have HR := aS (Bool.eq_false_iff.2 hr)
  rw [HR.out]
  simp only [Bool.false_and, Bool.false_eq_true, false_and, if_false]
  clear h hr hf hok
  go_enter Tryz.func56, Tryz.ntmps56
  go_wp2_with (first | (go_at_call 51; refine (has_any HS.out r).mono ?_; rintro e w1 ⟨rfl, rfl⟩; rw [HR.out]))
  all_goals go_ret
  all_goals exact ⟨rfl, HS.out.same⟩
end
end Go.Proofs.YtblcmcdifgclcaaGreat.Grd
