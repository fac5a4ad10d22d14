/- key.Of, key.Bytes, key.Moves, key.Word: the walks. -/
import Derived.Test.YtglcopljhanhmaaKeyB
namespace Go.Proofs.Ytglcopljhanhmaa
open Go.RowKit Go.Proofs.YtglcopljhanhmaaW.PrintWords Go.Proofs.YtglcopljhanhmaaW.PrintLast Go.Proofs.YtglcopljhanhmaaW.PrintMore
set_option linter.unusedVariables false
set_option linter.unusedSimpArgs false
theorem key_blk {w : World} {g : Nat} (hx : w.heap[g]? = some (.cells #[.int .i64 0, .int .i32 0] 70 (0, 0))) (a b : Int) : ((w.setCell ⟨g, 0, none⟩ (.int .i64 a)).setCell ⟨g, 1, none⟩ (.int .i32 b)).heap[g]? = some (.cells #[.int .i64 a, .int .i32 b] 70 (0, 0)) :=
  blk_put (cs := #[.int .i64 a, .int .i32 0]) (blk_put hx 0 _ rfl) 1 _ rfl
def plainK (r : Int) : Bool := wOf r == 1
def validK (l : List Int) : Bool := decide ((runesZ l).flatMap enc = l)
/-- The key of bytes. -/
def ofK (l : List Int) : Int × Int := if kindZ l ≠ 0 then (kindZ l, 0) else if (firstK l).2 = 0 ∨ (firstK l).2 ≠ (l.length : Int) ∨ validK l = false ∨ plainK (firstK l).1 = false then (8, 0) else (1, (firstK l).1)
set_option maxHeartbeats 8000000 in
set_option maxRecDepth 100000 in
theorem Of_walk (hF : ∀ (A : Option Addr) (c : Nat) (l : List Int) (w : World), (Kd.int .u8).C w A l.length l → l.length ≤ c → In8u l → l.length ≤ 1000 →
      Calls Try.prog 14 #[.slice A l.length c] w fun e w' => e = .returned (.tuple #[.int .i32 (firstK l).1, .int .i64 (firstK l).2]) ∧ Below w.heap.size w w')
    (hV : ∀ (A : Option Addr) (c : Nat) (l : List Int) (w : World), (Kd.int .u8).C w A l.length l → l.length ≤ c → In8u l → l.length ≤ 1000 →
      Calls Try.prog 20 #[.slice A l.length c] w fun e w' => e = .returned (.bool (validK l)) ∧ Below w.heap.size w w')
    (hP : ∀ (r : Int) (w : World), Calls Try.prog 39 #[.int .i32 r] w fun e w' => e = .returned (.bool (plainK r)) ∧ Below w.heap.size w w')
    (A : Option Addr) (c : Nat) (l : List Int) (r1 r2 : Int) (w : World) (hC : (Kd.int .u8).C w A l.length l) (hc : l.length ≤ c) (h8 : In8u l) (hlen : l.length ≤ 1000) (hq : ofK l = (r1, r2)) :
    Calls Try.prog 46 #[.slice A l.length c] w fun e w' => e = .returned (.agg #[.int .i64 r1, .int .i32 r2]) ∧ Below w.heap.size w w' := by
  obtain ⟨s3, hs3⟩ : ∃ s, strOfNums l = s := ⟨_, rfl⟩
  have hcv : ∀ W, Below w.heap.size w W → (Go.convert 22 9 (.slice A l.length c)).run Try.prog W = .ok (.string s3) W := fun W hb => by
    have := Kd.C_string (P := Try.prog) (c := c) Try.underlying22 Try.underlying5 Try.underlying9 (Kd.C_below hC hb)
    rw [hs3] at this
    exact this
  have HS3 := Aside0.mk (show kindS s3 = kindZ l by rw [← hs3]; exact kind_str h8)
  obtain ⟨r, k, hrk⟩ : ∃ r k, firstK l = (r, k) := ⟨_, _, rfl⟩
  have HF := Aside0.mk (fun (W : World) (hb : Below w.heap.size w W) => hF A c l W (Kd.C_below hC hb) hc h8 hlen)
  rw [hrk] at HF
  have HV := Aside0.mk (fun (W : World) (hb : Below w.heap.size w W) => hV A c l W (Kd.C_below hC hb) hc h8 hlen)
  have HP := Aside0.mk (hP r)
  obtain ⟨vv, hvv⟩ : ∃ v, validK l = v := ⟨_, rfl⟩
  obtain ⟨pp, hpp⟩ : ∃ v, plainK r = v := ⟨_, rfl⟩
  obtain ⟨kz, hkz⟩ : ∃ v, kindZ l = v := ⟨_, rfl⟩
  unfold ofK at hq
  rw [hrk, hvv, hkz] at hq
  dsimp only at hq
  rw [hpp] at hq
  rw [hvv] at HV
  rw [hpp] at HP
  rw [hkz] at HS3
  obtain ⟨bz, hbz⟩ : ∃ b, decide (kz ≠ 0) = b := ⟨_, rfl⟩
  have HBZ := Aside0.mk hbz
  have HQ := Aside0.mk hq
  clear hbz hlen hF hV hP hC hc h8 hs3 hrk hvv hpp hkz hq
  have hblk0 : (w.alloc (.cells #[.int .i64 0, .int .i32 0] 70)).heap[w.heap.size]? = some (.cells #[.int .i64 0, .int .i32 0] 70 (0, 0)) := blk_new w _
  have HX0 := Aside0.mk hblk0
  have HB0 := Aside0.mk (show Below w.heap.size w (w.alloc (.cells #[.int .i64 0, .int .i32 0] 70)) from below_alloc (Below.refl _ _) _)
  clear hblk0
  go_enter Try.func46, Try.ntmps46
  go_wp2
  refine start_ (n := 9) (S := fun w' => (Go.convert 22 9 (.slice A l.length c)).run Try.prog w' = .ok (.string s3) w') (ds := [3]) #[false, false, false, false, false, false, false, false, false] (by kernel_rfl) rfl rfl ((hcv _ (below_drew HB0.out))) (fun hHeld => ?_)
  refine pure_ (i := 1) (N := some 9) (v := ?_) (a' := ?_) #[false, true, false, false, false, false, false, false, false] rfl rfl (by kernel_rfl) (fun _ _ _ h => h) (Or.inl ⟨by rfl, ?_⟩) ?_ ?_
  rotate_left
  · intro w'
    go_simp
    with_reducible rfl
  rotate_left
  · simp only [Act.put, List.setIfInBounds_toArray, List.set_cons_zero, List.set_cons_succ, i64_w, i32_w]
    rfl
  refine take_ (i := 2) (N := some 10) (v := ?_) (a' := ?_) #[false, true, true, false, false, false, false, false, false] rfl rfl (by kernel_rfl) (fun _ _ _ h => h) (Or.inl ⟨by rfl, ?_⟩) hHeld ?_ ?_
  rotate_left
  · intro w' s0
    go_simp
    with_reducible rfl
  rotate_left
  · simp only [Act.put, List.setIfInBounds_toArray, List.set_cons_zero, List.set_cons_succ, i64_w, i32_w]
    rfl
  refine one_ (i := 0) (N := some 8) #[true, true, true, false, false, false, false, false, false] rfl rfl (by kernel_rfl) (by decide) (fun K hK => ?_)
  refine goes_ Try.func64 (by kernel_rfl) rfl #[] (by rfl) rfl rfl (by first | (simp only [List.map_toArray, List.map_cons, List.map_nil]; done) | (simp only [List.map_toArray, List.map_cons, List.map_nil]; rfl)) ?_
  with_reducible refine (named_any _).mono ?_
  rintro e w3 ⟨rfl, hm, hb⟩
  refine ⟨_, rfl, ?_⟩
  have HB3 := Aside0.mk (below_then (below_drew HB0.out) (below_drew HB0.out).size hb)
  have hx3 := blk_below (blk_drew HX0.out) hb
  have HX3 := Aside0.mk hx3
  have hlk : (Instr.lookup 97 (.map (some (w.heap.size + 1))) (.string s3) true).run Try.prog w3 = .ok (.tuple #[.int .i64 (kindS s3), .bool (decide (kindS s3 ≠ 0))]) w3 := by { have := (named_look (P := Try.prog) mapU Try.underlying9 zero_int w3 _ hm s3).2; rw [show (w.alloc (.cells #[.int .i64 0, .int .i32 0] 70)).drew.heap.size = w.heap.size + 1 by simp] at this; exact this }
  rw [HS3.out, HBZ.out] at hlk
  have hc0 : w3.cell? ⟨w.heap.size, 0, none⟩ = some (.int .i64 0) := (blk_cell hx3 0).trans rfl
  have hc1 : w3.cell? ⟨w.heap.size, 1, none⟩ = some (.int .i32 0) := (blk_cell hx3 1).trans rfl
  have hf0 := blk_frozen hx3 0
  have hf1 := blk_frozen hx3 1
  clear hb hm hx3
  refine hK.out _ _ ((hcv w3 HB3.out)) (fun hHeld => ?_)
  clear hK K
  refine norm_ (a' := ?_) ?_ ?_
  rotate_left
  · show Act.put _ (some 8) _ = _
    simp only [Act.put, List.setIfInBounds_toArray, List.set_cons_zero, List.set_cons_succ, i64_w, i32_w]
    rfl
  refine last_ (i := 3) (N := some 11) #[true, true, true, true, false, false, false, false, false] rfl rfl (by kernel_rfl) (by decide) (fun K hK => ?_)
  refine value_ (w1 := w3) (v := .tuple #[.int .i64 kz, .bool bz]) (by rfl) rfl (by first | (go_simp; rw [hlk]; done) | (go_simp; done)) ?_
  refine hK.out _ _ ?_
  clear hK K
  refine norm_ (a' := ?_) ?_ ?_
  rotate_left
  · show Act.put _ (some 11) _ = _
    simp only [Act.put, List.setIfInBounds_toArray, List.set_cons_zero, List.set_cons_succ, i64_w, i32_w]
    rfl
  refine pure_ (i := 4) (N := some 7) (v := ?_) (a' := ?_) #[true, true, true, true, true, false, false, false, false] rfl rfl (by kernel_rfl) (fun _ _ _ h => h) (Or.inl ⟨by rfl, ?_⟩) ?_ ?_
  rotate_left
  · intro w'
    go_simp
    with_reducible rfl
  rotate_left
  · simp only [Act.put, List.setIfInBounds_toArray, List.set_cons_zero, List.set_cons_succ, i64_w, i32_w]
    rfl
  refine pure_ (i := 5) (N := some 12) (v := ?_) (a' := ?_) #[true, true, true, true, true, true, false, false, false] rfl rfl (by kernel_rfl) (fun _ _ _ h => h) (Or.inl ⟨by rfl, ?_⟩) ?_ ?_
  rotate_left
  · intro w'
    go_simp
    with_reducible rfl
  rotate_left
  · simp only [Act.put, List.setIfInBounds_toArray, List.set_cons_zero, List.set_cons_succ, i64_w, i32_w]
    rfl
  refine pure_ (i := 6) (N := some 13) (v := ?_) (a' := ?_) #[true, true, true, true, true, true, true, false, false] rfl rfl (by kernel_rfl) (fun _ _ _ h => h) (Or.inl ⟨by rfl, ?_⟩) ?_ ?_
  rotate_left
  · intro w'
    go_simp
    with_reducible rfl
  rotate_left
  · simp only [Act.put, List.setIfInBounds_toArray, List.set_cons_zero, List.set_cons_succ, i64_w, i32_w]
    rfl
  refine pure_ (i := 7) (N := some 3) (v := ?_) (a' := ?_) #[true, true, true, true, true, true, true, true, false] rfl rfl (by kernel_rfl) (fun _ _ _ h => h) (Or.inl ⟨by rfl, ?_⟩) ?_ ?_
  rotate_left
  · intro w'
    go_simp
    with_reducible rfl
  rotate_left
  · simp only [Act.put, List.setIfInBounds_toArray, List.set_cons_zero, List.set_cons_succ, i64_w, i32_w]
    rfl
  refine pure_ (i := 8) (N := some 4) (v := ?_) (a' := ?_) #[true, true, true, true, true, true, true, true, true] rfl rfl (by kernel_rfl) (fun _ _ _ h => h) (Or.inl ⟨by rfl, ?_⟩) ?_ ?_
  rotate_left
  · intro w'
    go_simp
    with_reducible rfl
  rotate_left
  · simp only [Act.put, List.setIfInBounds_toArray, List.set_cons_zero, List.set_cons_succ, i64_w, i32_w]
    rfl
  refine done_ (by kernel_rfl) ?_
  cases bz
  · have hz : kz = 0 := by have := HBZ.out; simpa using this
    have hq2 := HQ.out
    rw [if_neg (by simp [hz])] at hq2
    have HQ2 := Aside0.mk hq2
    clear hq2
    by_cases hk0 : k = 0
    · have hT1 : (k == 0) = true := by rw [hk0]; rfl
      have HK0 := Aside0.mk hk0
      clear hk0
      obtain ⟨rfl, rfl⟩ : 8 = r1 ∧ 0 = r2 := by have := HQ2.out; rw [if_pos (by simp [HK0.out])] at this; simpa using this
      go_wp2_with (first | (go_at_call 14; refine (HF.out _ HB3.out).mono ?_; rintro e w4 ⟨rfl, hb⟩; have hx4 := blk_below HX3.out hb; have HX4 := Aside0.mk hx4; have hc04 : w4.cell? ⟨w.heap.size, 0, none⟩ = some (.int .i64 0) := (blk_cell hx4 0).trans rfl; have hc14 : w4.cell? ⟨w.heap.size, 1, none⟩ = some (.int .i32 0) := (blk_cell hx4 1).trans rfl; have hf04 := blk_frozen hx4 0; have hf14 := blk_frozen hx4 1; have HB4 := Aside0.mk (below_then HB3.out HB3.out.size hb); clear hb hx4) | (go_at_call 20; refine (HV.out _ HB4.out).mono ?_; rintro e w5 ⟨rfl, hb⟩; have hx5 := blk_below HX4.out hb; have HX5 := Aside0.mk hx5; have hc05 : w5.cell? ⟨w.heap.size, 0, none⟩ = some (.int .i64 0) := (blk_cell hx5 0).trans rfl; have hc15 : w5.cell? ⟨w.heap.size, 1, none⟩ = some (.int .i32 0) := (blk_cell hx5 1).trans rfl; have hf05 := blk_frozen hx5 0; have hf15 := blk_frozen hx5 1; have HB5 := Aside0.mk (below_then HB4.out HB4.out.size hb); clear hb hx5) | (go_at_call 39; refine (HP.out _).mono ?_; rintro e w6 ⟨rfl, hb⟩; have hx6 := blk_below HX5.out hb; have HX6 := Aside0.mk hx6; have hc06 : w6.cell? ⟨w.heap.size, 0, none⟩ = some (.int .i64 0) := (blk_cell hx6 0).trans rfl; have hc16 : w6.cell? ⟨w.heap.size, 1, none⟩ = some (.int .i32 0) := (blk_cell hx6 1).trans rfl; have hf06 := blk_frozen hx6 0; have hf16 := blk_frozen hx6 1; have HB6 := Aside0.mk (below_then HB5.out HB5.out.size hb); clear hb hx6))
      refine bodyPost_ret (results_cell_row rfl _ _ w.heap.size 70 #[.int .i64 8, .int .i32 0] (0, 0) _ rfl (key_blk HX4.out _ _) Try.underlying70 rfl (by kernel_rfl)) rfl ?_
      exact ⟨rfl, (HB4.out.setCell (Nat.le_refl _) _).setCell (Nat.le_refl _) _⟩
    · have hT1 : (k == 0) = false := by rw [beq_eq_false_iff_ne]; exact hk0
      have HK0 := Aside0.mk hk0
      clear hk0
      by_cases hkl : k = (l.length : Int)
      · have hT2 : (k != (l.length : Int)) = false := by rw [hkl]; simp
        have HKL := Aside0.mk hkl
        clear hkl
        cases vv
        · obtain ⟨rfl, rfl⟩ : 8 = r1 ∧ 0 = r2 := by have := HQ2.out; rw [if_pos (by simp [HKL.out])] at this; simpa using this
          go_wp2_with (first | (go_at_call 14; refine (HF.out _ HB3.out).mono ?_; rintro e w4 ⟨rfl, hb⟩; have hx4 := blk_below HX3.out hb; have HX4 := Aside0.mk hx4; have hc04 : w4.cell? ⟨w.heap.size, 0, none⟩ = some (.int .i64 0) := (blk_cell hx4 0).trans rfl; have hc14 : w4.cell? ⟨w.heap.size, 1, none⟩ = some (.int .i32 0) := (blk_cell hx4 1).trans rfl; have hf04 := blk_frozen hx4 0; have hf14 := blk_frozen hx4 1; have HB4 := Aside0.mk (below_then HB3.out HB3.out.size hb); clear hb hx4) | (go_at_call 20; refine (HV.out _ HB4.out).mono ?_; rintro e w5 ⟨rfl, hb⟩; have hx5 := blk_below HX4.out hb; have HX5 := Aside0.mk hx5; have hc05 : w5.cell? ⟨w.heap.size, 0, none⟩ = some (.int .i64 0) := (blk_cell hx5 0).trans rfl; have hc15 : w5.cell? ⟨w.heap.size, 1, none⟩ = some (.int .i32 0) := (blk_cell hx5 1).trans rfl; have hf05 := blk_frozen hx5 0; have hf15 := blk_frozen hx5 1; have HB5 := Aside0.mk (below_then HB4.out HB4.out.size hb); clear hb hx5) | (go_at_call 39; refine (HP.out _).mono ?_; rintro e w6 ⟨rfl, hb⟩; have hx6 := blk_below HX5.out hb; have HX6 := Aside0.mk hx6; have hc06 : w6.cell? ⟨w.heap.size, 0, none⟩ = some (.int .i64 0) := (blk_cell hx6 0).trans rfl; have hc16 : w6.cell? ⟨w.heap.size, 1, none⟩ = some (.int .i32 0) := (blk_cell hx6 1).trans rfl; have hf06 := blk_frozen hx6 0; have hf16 := blk_frozen hx6 1; have HB6 := Aside0.mk (below_then HB5.out HB5.out.size hb); clear hb hx6))
          refine bodyPost_ret (results_cell_row rfl _ _ w.heap.size 70 #[.int .i64 8, .int .i32 0] (0, 0) _ rfl (key_blk HX5.out _ _) Try.underlying70 rfl (by kernel_rfl)) rfl ?_
          exact ⟨rfl, (HB5.out.setCell (Nat.le_refl _) _).setCell (Nat.le_refl _) _⟩
        · cases pp
          · obtain ⟨rfl, rfl⟩ : 8 = r1 ∧ 0 = r2 := by have := HQ2.out; rw [if_pos (by simp [HKL.out])] at this; simpa using this
            go_wp2_with (first | (go_at_call 14; refine (HF.out _ HB3.out).mono ?_; rintro e w4 ⟨rfl, hb⟩; have hx4 := blk_below HX3.out hb; have HX4 := Aside0.mk hx4; have hc04 : w4.cell? ⟨w.heap.size, 0, none⟩ = some (.int .i64 0) := (blk_cell hx4 0).trans rfl; have hc14 : w4.cell? ⟨w.heap.size, 1, none⟩ = some (.int .i32 0) := (blk_cell hx4 1).trans rfl; have hf04 := blk_frozen hx4 0; have hf14 := blk_frozen hx4 1; have HB4 := Aside0.mk (below_then HB3.out HB3.out.size hb); clear hb hx4) | (go_at_call 20; refine (HV.out _ HB4.out).mono ?_; rintro e w5 ⟨rfl, hb⟩; have hx5 := blk_below HX4.out hb; have HX5 := Aside0.mk hx5; have hc05 : w5.cell? ⟨w.heap.size, 0, none⟩ = some (.int .i64 0) := (blk_cell hx5 0).trans rfl; have hc15 : w5.cell? ⟨w.heap.size, 1, none⟩ = some (.int .i32 0) := (blk_cell hx5 1).trans rfl; have hf05 := blk_frozen hx5 0; have hf15 := blk_frozen hx5 1; have HB5 := Aside0.mk (below_then HB4.out HB4.out.size hb); clear hb hx5) | (go_at_call 39; refine (HP.out _).mono ?_; rintro e w6 ⟨rfl, hb⟩; have hx6 := blk_below HX5.out hb; have HX6 := Aside0.mk hx6; have hc06 : w6.cell? ⟨w.heap.size, 0, none⟩ = some (.int .i64 0) := (blk_cell hx6 0).trans rfl; have hc16 : w6.cell? ⟨w.heap.size, 1, none⟩ = some (.int .i32 0) := (blk_cell hx6 1).trans rfl; have hf06 := blk_frozen hx6 0; have hf16 := blk_frozen hx6 1; have HB6 := Aside0.mk (below_then HB5.out HB5.out.size hb); clear hb hx6))
            refine bodyPost_ret (results_cell_row rfl _ _ w.heap.size 70 #[.int .i64 8, .int .i32 0] (0, 0) _ rfl (key_blk HX6.out _ _) Try.underlying70 rfl (by kernel_rfl)) rfl ?_
            exact ⟨rfl, (HB6.out.setCell (Nat.le_refl _) _).setCell (Nat.le_refl _) _⟩
          · obtain ⟨rfl, rfl⟩ : 1 = r1 ∧ r = r2 := by have := HQ2.out; rw [if_neg (by rintro (h | h | h | h); exact HK0.out h; exact h HKL.out; cases h; cases h)] at this; simpa using this
            go_wp2_with (first | (go_at_call 14; refine (HF.out _ HB3.out).mono ?_; rintro e w4 ⟨rfl, hb⟩; have hx4 := blk_below HX3.out hb; have HX4 := Aside0.mk hx4; have hc04 : w4.cell? ⟨w.heap.size, 0, none⟩ = some (.int .i64 0) := (blk_cell hx4 0).trans rfl; have hc14 : w4.cell? ⟨w.heap.size, 1, none⟩ = some (.int .i32 0) := (blk_cell hx4 1).trans rfl; have hf04 := blk_frozen hx4 0; have hf14 := blk_frozen hx4 1; have HB4 := Aside0.mk (below_then HB3.out HB3.out.size hb); clear hb hx4) | (go_at_call 20; refine (HV.out _ HB4.out).mono ?_; rintro e w5 ⟨rfl, hb⟩; have hx5 := blk_below HX4.out hb; have HX5 := Aside0.mk hx5; have hc05 : w5.cell? ⟨w.heap.size, 0, none⟩ = some (.int .i64 0) := (blk_cell hx5 0).trans rfl; have hc15 : w5.cell? ⟨w.heap.size, 1, none⟩ = some (.int .i32 0) := (blk_cell hx5 1).trans rfl; have hf05 := blk_frozen hx5 0; have hf15 := blk_frozen hx5 1; have HB5 := Aside0.mk (below_then HB4.out HB4.out.size hb); clear hb hx5) | (go_at_call 39; refine (HP.out _).mono ?_; rintro e w6 ⟨rfl, hb⟩; have hx6 := blk_below HX5.out hb; have HX6 := Aside0.mk hx6; have hc06 : w6.cell? ⟨w.heap.size, 0, none⟩ = some (.int .i64 0) := (blk_cell hx6 0).trans rfl; have hc16 : w6.cell? ⟨w.heap.size, 1, none⟩ = some (.int .i32 0) := (blk_cell hx6 1).trans rfl; have hf06 := blk_frozen hx6 0; have hf16 := blk_frozen hx6 1; have HB6 := Aside0.mk (below_then HB5.out HB5.out.size hb); clear hb hx6))
            refine bodyPost_ret (results_cell_row rfl _ _ w.heap.size 70 #[.int .i64 1, .int .i32 r] (0, 0) _ rfl (key_blk HX6.out _ _) Try.underlying70 rfl (by kernel_rfl)) rfl ?_
            exact ⟨rfl, (HB6.out.setCell (Nat.le_refl _) _).setCell (Nat.le_refl _) _⟩
      · have hT2 : (k != (l.length : Int)) = true := by rw [bne_iff_ne]; exact hkl
        have HKL := Aside0.mk hkl
        clear hkl
        obtain ⟨rfl, rfl⟩ : 8 = r1 ∧ 0 = r2 := by have := HQ2.out; rw [if_pos (by simp [HKL.out])] at this; simpa using this
        go_wp2_with (first | (go_at_call 14; refine (HF.out _ HB3.out).mono ?_; rintro e w4 ⟨rfl, hb⟩; have hx4 := blk_below HX3.out hb; have HX4 := Aside0.mk hx4; have hc04 : w4.cell? ⟨w.heap.size, 0, none⟩ = some (.int .i64 0) := (blk_cell hx4 0).trans rfl; have hc14 : w4.cell? ⟨w.heap.size, 1, none⟩ = some (.int .i32 0) := (blk_cell hx4 1).trans rfl; have hf04 := blk_frozen hx4 0; have hf14 := blk_frozen hx4 1; have HB4 := Aside0.mk (below_then HB3.out HB3.out.size hb); clear hb hx4) | (go_at_call 20; refine (HV.out _ HB4.out).mono ?_; rintro e w5 ⟨rfl, hb⟩; have hx5 := blk_below HX4.out hb; have HX5 := Aside0.mk hx5; have hc05 : w5.cell? ⟨w.heap.size, 0, none⟩ = some (.int .i64 0) := (blk_cell hx5 0).trans rfl; have hc15 : w5.cell? ⟨w.heap.size, 1, none⟩ = some (.int .i32 0) := (blk_cell hx5 1).trans rfl; have hf05 := blk_frozen hx5 0; have hf15 := blk_frozen hx5 1; have HB5 := Aside0.mk (below_then HB4.out HB4.out.size hb); clear hb hx5) | (go_at_call 39; refine (HP.out _).mono ?_; rintro e w6 ⟨rfl, hb⟩; have hx6 := blk_below HX5.out hb; have HX6 := Aside0.mk hx6; have hc06 : w6.cell? ⟨w.heap.size, 0, none⟩ = some (.int .i64 0) := (blk_cell hx6 0).trans rfl; have hc16 : w6.cell? ⟨w.heap.size, 1, none⟩ = some (.int .i32 0) := (blk_cell hx6 1).trans rfl; have hf06 := blk_frozen hx6 0; have hf16 := blk_frozen hx6 1; have HB6 := Aside0.mk (below_then HB5.out HB5.out.size hb); clear hb hx6))
        refine bodyPost_ret (results_cell_row rfl _ _ w.heap.size 70 #[.int .i64 8, .int .i32 0] (0, 0) _ rfl (key_blk HX4.out _ _) Try.underlying70 rfl (by kernel_rfl)) rfl ?_
        exact ⟨rfl, (HB4.out.setCell (Nat.le_refl _) _).setCell (Nat.le_refl _) _⟩
  · have hz : kz ≠ 0 := by have := HBZ.out; simpa using this
    have hq2 := HQ.out
    rw [if_pos hz] at hq2
    injection hq2 with hq3 hq4
    subst hq3 hq4
    clear hz
    go_wp2
    refine bodyPost_ret (results_cell_row rfl _ _ w.heap.size 70 #[.int .i64 kz, .int .i32 0] (0, 0) _ rfl (key_blk HX3.out _ _) Try.underlying70 rfl (by kernel_rfl)) rfl ?_
    exact ⟨rfl, (HB3.out.setCell (Nat.le_refl _) _).setCell (Nat.le_refl _) _⟩
end Go.Proofs.Ytglcopljhanhmaa
