/- KeyBytes holds: the bytes of any key, and how it moves. No condition. -/
import Derived.Test.YtglcopljhanhmaaRows
import Derived.Test.YtglcopljhanhmaaPureKeyBytes
import Derived.Test.YtglcopljhanhmaaOpn
import Derived.ProofKit
import Derived.OpenShut
namespace Go.Proofs.Ytglcopljhanhmaa
open Go.ChangeShapes Go.WideShapes Go.ChangeAt Go.RowKit Go.Proofs.YtglcopljhanhmaaW.PrintWords Go.Proofs.YtglcopljhanhmaaW.PrintLast Go.Proofs.YtglcopljhanhmaaW.PrintMore Go.Proofs.Ytglcopljhanhmaa.PKeyBytes
set_option linter.unusedVariables false
set_option linter.unusedSimpArgs false
theorem yb_utf (A : Option Addr) (c : Nat) (r : Int) (w : World) (hC : (Kd.int .i32).C w A 1 [r]) (hc : 1 ≤ c) :
    Calls Try.prog 27 #[.slice A 1 c] w fun e w' => ∃ v, e = .returned v ∧ Kd.R (Kd.int .u8) 5 w' w.heap.size (fun _ => True) v (enc (mendK r)) ∧ Below w.heap.size w w' :=
  utf_Bytes.calls 100 A c [r] (enc (mendK r)) w hC hc (Pure.ub_one r)
theorem yb_any (k r : Int) (r1 : List Int) (r2 : Bool) (w : World) (hq : bytesK k r = (r1, r2)) :
    Calls Try.prog 47 #[.agg #[.int .i64 k, .int .i32 r]] w fun e w' => ∃ A c, e = .returned (.tuple #[.slice A r1.length c, .bool r2]) ∧ r1.length ≤ c ∧ (Kd.int .u8).C w' A r1.length r1 ∧ Below w.heap.size w w' :=
  Bytes_walk yb_utf kPlain k r r1 r2 w hq
theorem yb_law (k r : Int) (w : World) (hr : -2147483648 ≤ r ∧ r ≤ 2147483647) :
    Calls Try.prog 48 #[.agg #[.int .i64 k, .int .i32 r]] w fun e w' => e = .returned (.agg #[.int .i64 k, .int .i64 r]) ∧ Below w.heap.size w w' :=
  prolepsislaw22_Of.calls k r k r w (by unfold prolepsislaw22_Of.f; rw [show wrap64 r = r by unfold wrap64; omega])
theorem yb_ref (k r : Int) (s : ByteArray) (ok : Bool) (w : World) (h : (strOfNums (bytesK k r).1, (bytesK k r).2) = (s, ok)) :
    Calls Try.prog 50 #[.agg #[.int .i64 k, .int .i64 r]] w fun e w' => e = .returned (.tuple #[.string s, .bool ok]) ∧ Below w.heap.size w w' :=
  prolepsisref22_Bytes.calls 100 k r s ok w (by rw [Pure.ref_bytes k r (Pure.rb_one r), h])
theorem yb_moves (k r a b : Int) (w : World) (hq : movesK k r = (a, b)) : Calls Try.prog 51 #[.agg #[.int .i64 k, .int .i32 r]] w fun e w' => e = .returned (.tuple #[.int .i64 a, .int .i64 b]) ∧ Below w.heap.size w w' :=
  Moves_walk kPlain k r a b w hq
theorem yb_rmoves (k r a b : Int) (w : World) (hq : movesK k r = (a, b)) : Calls Try.prog 52 #[.agg #[.int .i64 k, .int .i64 r]] w fun e w' => e = .returned (.tuple #[.int .i64 a, .int .i64 b]) ∧ Below w.heap.size w w' :=
  prolepsisref22_Moves.calls 100 k r a b w (by rw [Pure.ref_moves, hq])
theorem yb_rword (k : Int) (s : ByteArray) (w : World) (hs : strOfNums (wordK k) = s) : Calls Try.prog 54 #[.int .i64 k] w fun e w' => e = .returned (.string s) ∧ Below w.heap.size w w' :=
  prolepsisref22_Word.calls k s w (by rw [Pure.ref_word, hs])
theorem yb_of (A : Option Addr) (c : Nat) (l : List Int) (r1 r2 : Int) (w : World) (hC : (Kd.int .u8).C w A l.length l) (hc : l.length ≤ c) (h8 : In8u l) (hl : l.length ≤ 1000) (hq : ofK l = (r1, r2)) :
    Calls Try.prog 46 #[.slice A l.length c] w fun e w' => e = .returned (.agg #[.int .i64 r1, .int .i32 r2]) ∧ Below w.heap.size w w' :=
  key_Of.calls A c l r1 r2 w hC hc (by unfold key_Of.f; rw [if_pos ⟨all8K.2 h8, hl⟩, hq])
set_option maxRecDepth 100000 in
set_option maxHeartbeats 1000000 in
theorem walkKB (k r : Int) (w : World) (hr : -2147483648 ≤ r ∧ r ≤ 2147483647) :
    Calls Try.prog 13 #[.agg #[.int .i64 k, .int .i32 r]] w fun e w' => e = .returned (.bool true) ∧ Below w.heap.size w w' := by
  have h8 := Pure.bytes_in8 k r
  have hof := Pure.of_bytes k r
  obtain ⟨⟨c1, ok⟩, hbb⟩ : ∃ p, bytesK k r = p := ⟨_, rfl⟩
  obtain ⟨⟨m1, m2⟩, hmv⟩ : ∃ p, movesK k r = p := ⟨_, rfl⟩
  obtain ⟨⟨k2, r2⟩, hkk⟩ : ∃ p, ofK c1 = p := ⟨_, rfl⟩
  obtain ⟨s1, hs1⟩ : ∃ s, strOfNums c1 = s := ⟨_, rfl⟩
  obtain ⟨sw, hsw⟩ : ∃ s, strOfNums (wordK k) = s := ⟨_, rfl⟩
  have hrb : (strOfNums (bytesK k r).1, (bytesK k r).2) = (s1, ok) := by rw [hbb]; dsimp only; rw [hs1]
  rw [hbb] at h8 hof
  dsimp only at h8 hof
  rw [hkk] at hof
  have HX0 := Aside0.mk (show (w.alloc (.cells #[.int .i64 k, .int .i32 r] 70)).heap[w.heap.size]? = some (.cells #[.int .i64 k, .int .i32 r] 70 (0, 0)) from blk_new w _)
  have HB0 := Aside0.mk (show Below w.heap.size w (w.alloc (.cells #[.int .i64 k, .int .i32 r] 70)) from below_alloc (Below.refl _ _) _)
  have HBB := Aside0.mk hbb
  have HMV := Aside0.mk hmv
  have HKK := Aside0.mk hkk
  have HS1 := Aside0.mk hs1
  have HSW := Aside0.mk hsw
  have HRB := Aside0.mk hrb
  have H32 := Aside0.mk hr
  have H8 := Aside0.mk h8
  have HOF := Aside0.mk hof
  clear hbb hmv hkk hs1 hsw hrb hr h8 hof
  go_enter Try.func13, Try.ntmps13
  cases ok
  · go_wp2_with (first | (go_at_call 47; go_must (refine (yb_any k r c1 false _ HBB.out).mono ?_); rintro e w1 ⟨A2, c2, rfl, hc2, hC2, hb⟩; have hx1 := blk_below HX0.out hb; have HX1 := Aside0.mk hx1; have hc01 : w1.cell? ⟨w.heap.size, 0, none⟩ = some (.int .i64 k) := (blk_cell hx1 0).trans rfl; have hc11 : w1.cell? ⟨w.heap.size, 1, none⟩ = some (.int .i32 r) := (blk_cell hx1 1).trans rfl; have HB1 := Aside0.mk (below_then HB0.out HB0.out.size hb); clear hx1; have HC1 := Aside0.mk hC2; have HK1 := Aside0.mk hc2; clear hb hC2 hc2) | (go_at_call 48; (with_reducible refine (yb_law k r w4 H32.out).mono ?_); rintro e w5 ⟨rfl, hb⟩; have hx5 := blk_below HX4.out hb; have HX5 := Aside0.mk hx5; have hc05 : w5.cell? ⟨w.heap.size, 0, none⟩ = some (.int .i64 k) := (blk_cell hx5 0).trans rfl; have hc15 : w5.cell? ⟨w.heap.size, 1, none⟩ = some (.int .i32 r) := (blk_cell hx5 1).trans rfl; have HB5 := Aside0.mk (below_then HB4.out HB4.out.size hb); clear hx5; have HC5 := Aside0.mk (Kd.C_below HC4.out hb); clear hb) | (go_at_call 50; go_must (refine (yb_ref k r s1 false _ HRB.out).mono ?_); rintro e w3 ⟨rfl, hb⟩; have hx3 := blk_below HX2.out hb; have HX3 := Aside0.mk hx3; have hc03 : w3.cell? ⟨w.heap.size, 0, none⟩ = some (.int .i64 k) := (blk_cell hx3 0).trans rfl; have hc13 : w3.cell? ⟨w.heap.size, 1, none⟩ = some (.int .i32 r) := (blk_cell hx3 1).trans rfl; have HB3 := Aside0.mk (below_then HB2.out HB2.out.size hb); clear hx3; have HC3 := Aside0.mk (Kd.C_below HC2.out hb); clear hb) | (go_at_call 51; go_must (refine (yb_moves k r m1 m2 _ HMV.out).mono ?_); rintro e w4 ⟨rfl, hb⟩; have hx4 := blk_below HX3.out hb; have HX4 := Aside0.mk hx4; have hc04 : w4.cell? ⟨w.heap.size, 0, none⟩ = some (.int .i64 k) := (blk_cell hx4 0).trans rfl; have hc14 : w4.cell? ⟨w.heap.size, 1, none⟩ = some (.int .i32 r) := (blk_cell hx4 1).trans rfl; have HB4 := Aside0.mk (below_then HB3.out HB3.out.size hb); clear hx4; have HC4 := Aside0.mk (Kd.C_below HC3.out hb); clear hb) | (go_at_call 48; (with_reducible refine (yb_law k r w1 H32.out).mono ?_); rintro e w2 ⟨rfl, hb⟩; have hx2 := blk_below HX1.out hb; have HX2 := Aside0.mk hx2; have hc02 : w2.cell? ⟨w.heap.size, 0, none⟩ = some (.int .i64 k) := (blk_cell hx2 0).trans rfl; have hc12 : w2.cell? ⟨w.heap.size, 1, none⟩ = some (.int .i32 r) := (blk_cell hx2 1).trans rfl; have HB2 := Aside0.mk (below_then HB1.out HB1.out.size hb); clear hx2; have HC2 := Aside0.mk (Kd.C_below HC1.out hb); clear hb) | (go_at_call 52; go_must (refine (yb_rmoves k r m1 m2 _ HMV.out).mono ?_); rintro e w6 ⟨rfl, hb⟩; have hx6 := blk_below HX5.out hb; have HX6 := Aside0.mk hx6; have hc06 : w6.cell? ⟨w.heap.size, 0, none⟩ = some (.int .i64 k) := (blk_cell hx6 0).trans rfl; have hc16 : w6.cell? ⟨w.heap.size, 1, none⟩ = some (.int .i32 r) := (blk_cell hx6 1).trans rfl; have HB6 := Aside0.mk (below_then HB5.out HB5.out.size hb); clear hx6; have HC6 := Aside0.mk (Kd.C_below HC5.out hb); have hcv := Kd.C_string (P := Try.prog) (c := c2) Try.underlying22 Try.underlying5 Try.underlying9 (Kd.C_below HC6.out (below_drew (Below.refl _ _))); rw [HS1.out] at hcv; clear hb))
    refine start_ (n := 28) (S := fun w' => w'.cell? ⟨w.heap.size, 0, none⟩ = some (.int .i64 k) ∧ (Go.convert 22 9 (.slice A2 c1.length c2)).run Try.prog w' = .ok (.string s1) w') (ds := []) #[false, false, false, false, false, false, false, false, false, false, false, false, false, false, false, false, false, false, false, false, false, false, false, false, false, false, false, false] (by kernel_rfl) rfl rfl ⟨hc06, hcv⟩ (fun hHeld => ?_)
    refine pure_ (i := 0) (N := some 34) (v := ?_) (a' := ?_) #[true, false, false, false, false, false, false, false, false, false, false, false, false, false, false, false, false, false, false, false, false, false, false, false, false, false, false, false] rfl rfl (by kernel_rfl) (fun _ _ _ h => h) (Or.inl ⟨by rfl, ?_⟩) ?_ ?_
    rotate_left
    · intro w'
      go_simp
      with_reducible rfl
    rotate_left
    · simp only [Act.put, List.setIfInBounds_toArray, List.set_cons_zero, List.set_cons_succ, i64_w, i32_w]
      rfl
    refine pure_ (i := 2) (N := some 36) (v := ?_) (a' := ?_) #[true, false, true, false, false, false, false, false, false, false, false, false, false, false, false, false, false, false, false, false, false, false, false, false, false, false, false, false] rfl rfl (by kernel_rfl) (fun _ _ _ h => h) (Or.inl ⟨by rfl, ?_⟩) ?_ ?_
    rotate_left
    · intro w'
      go_simp
      with_reducible rfl
    rotate_left
    · simp only [Act.put, List.setIfInBounds_toArray, List.set_cons_zero, List.set_cons_succ, i64_w, i32_w]
      rfl
    refine take_ (i := 1) (N := some 35) (v := ?_) (a' := ?_) #[true, true, true, false, false, false, false, false, false, false, false, false, false, false, false, false, false, false, false, false, false, false, false, false, false, false, false, false] rfl rfl (by kernel_rfl) (fun _ _ _ h => h) (Or.inl ⟨by rfl, ?_⟩) hHeld ?_ ?_
    rotate_left
    · rintro w' ⟨s0, s1⟩
      go_simp
      with_reducible rfl
    rotate_left
    · simp only [Act.put, List.setIfInBounds_toArray, List.set_cons_zero, List.set_cons_succ, i64_w, i32_w]
      rfl
    refine pure_ (i := 3) (N := some 37) (v := ?_) (a' := ?_) #[true, true, true, true, false, false, false, false, false, false, false, false, false, false, false, false, false, false, false, false, false, false, false, false, false, false, false, false] rfl rfl (by kernel_rfl) (fun _ _ _ h => h) (Or.inl ⟨by rfl, ?_⟩) ?_ ?_
    rotate_left
    · intro w'
      go_simp
      with_reducible rfl
    rotate_left
    · simp only [Act.put, List.setIfInBounds_toArray, List.set_cons_zero, List.set_cons_succ, i64_w, i32_w]
      rfl
    refine pure_ (i := 4) (N := some 38) (v := ?_) (a' := ?_) #[true, true, true, true, true, false, false, false, false, false, false, false, false, false, false, false, false, false, false, false, false, false, false, false, false, false, false, false] rfl rfl (by kernel_rfl) (fun _ _ _ h => h) (Or.inl ⟨by rfl, ?_⟩) ?_ ?_
    rotate_left
    · intro w'
      go_simp
      with_reducible rfl
    rotate_left
    · simp only [Act.put, List.setIfInBounds_toArray, List.set_cons_zero, List.set_cons_succ, i64_w, i32_w]
      rfl
    refine pure_ (i := 5) (N := some 39) (v := ?_) (a' := ?_) #[true, true, true, true, true, true, false, false, false, false, false, false, false, false, false, false, false, false, false, false, false, false, false, false, false, false, false, false] rfl rfl (by kernel_rfl) (fun _ _ _ h => h) (Or.inl ⟨by rfl, ?_⟩) ?_ ?_
    rotate_left
    · intro w'
      go_simp
      with_reducible rfl
    rotate_left
    · simp only [Act.put, List.setIfInBounds_toArray, List.set_cons_zero, List.set_cons_succ, i64_w, i32_w]
      rfl
    refine pure_ (i := 6) (N := some 40) (v := ?_) (a' := ?_) #[true, true, true, true, true, true, true, false, false, false, false, false, false, false, false, false, false, false, false, false, false, false, false, false, false, false, false, false] rfl rfl (by kernel_rfl) (fun _ _ _ h => h) (Or.inl ⟨by rfl, ?_⟩) ?_ ?_
    rotate_left
    · intro w'
      go_simp
      with_reducible rfl
    rotate_left
    · simp only [Act.put, List.setIfInBounds_toArray, List.set_cons_zero, List.set_cons_succ, i64_w, i32_w]
      rfl
    refine pure_ (i := 7) (N := some 41) (v := ?_) (a' := ?_) #[true, true, true, true, true, true, true, true, false, false, false, false, false, false, false, false, false, false, false, false, false, false, false, false, false, false, false, false] rfl rfl (by kernel_rfl) (fun _ _ _ h => h) (Or.inl ⟨by rfl, ?_⟩) ?_ ?_
    rotate_left
    · intro w'
      go_simp
      with_reducible rfl
    rotate_left
    · simp only [Act.put, List.setIfInBounds_toArray, List.set_cons_zero, List.set_cons_succ, i64_w, i32_w]
      rfl
    refine pure_ (i := 8) (N := some 42) (v := ?_) (a' := ?_) #[true, true, true, true, true, true, true, true, true, false, false, false, false, false, false, false, false, false, false, false, false, false, false, false, false, false, false, false] rfl rfl (by kernel_rfl) (fun _ _ _ h => h) (Or.inl ⟨by rfl, ?_⟩) ?_ ?_
    rotate_left
    · intro w'
      go_simp
      with_reducible rfl
    rotate_left
    · simp only [Act.put, List.setIfInBounds_toArray, List.set_cons_zero, List.set_cons_succ, i64_w, i32_w]
      rfl
    refine pure_ (i := 9) (N := some 43) (v := ?_) (a' := ?_) #[true, true, true, true, true, true, true, true, true, true, false, false, false, false, false, false, false, false, false, false, false, false, false, false, false, false, false, false] rfl rfl (by kernel_rfl) (fun _ _ _ h => h) (Or.inl ⟨by rfl, ?_⟩) ?_ ?_
    rotate_left
    · intro w'
      go_simp
      with_reducible rfl
    rotate_left
    · simp only [Act.put, List.setIfInBounds_toArray, List.set_cons_zero, List.set_cons_succ, i64_w, i32_w]
      rfl
    refine pure_ (i := 10) (N := some 44) (v := ?_) (a' := ?_) #[true, true, true, true, true, true, true, true, true, true, true, false, false, false, false, false, false, false, false, false, false, false, false, false, false, false, false, false] rfl rfl (by kernel_rfl) (fun _ _ _ h => h) (Or.inl ⟨by rfl, ?_⟩) ?_ ?_
    rotate_left
    · intro w'
      go_simp
      with_reducible rfl
    rotate_left
    · simp only [Act.put, List.setIfInBounds_toArray, List.set_cons_zero, List.set_cons_succ, i64_w, i32_w]
      rfl
    refine pure_ (i := 11) (N := some 45) (v := ?_) (a' := ?_) #[true, true, true, true, true, true, true, true, true, true, true, true, false, false, false, false, false, false, false, false, false, false, false, false, false, false, false, false] rfl rfl (by kernel_rfl) (fun _ _ _ h => h) (Or.inl ⟨by rfl, ?_⟩) ?_ ?_
    rotate_left
    · intro w'
      go_simp
      with_reducible rfl
    rotate_left
    · simp only [Act.put, List.setIfInBounds_toArray, List.set_cons_zero, List.set_cons_succ, i64_w, i32_w]
      rfl
    refine pure_ (i := 12) (N := some 46) (v := ?_) (a' := ?_) #[true, true, true, true, true, true, true, true, true, true, true, true, true, false, false, false, false, false, false, false, false, false, false, false, false, false, false, false] rfl rfl (by kernel_rfl) (fun _ _ _ h => h) (Or.inl ⟨by rfl, ?_⟩) ?_ ?_
    rotate_left
    · intro w'
      go_simp
      with_reducible rfl
    rotate_left
    · simp only [Act.put, List.setIfInBounds_toArray, List.set_cons_zero, List.set_cons_succ, i64_w, i32_w]
      rfl
    refine pure_ (i := 13) (N := some 47) (v := ?_) (a' := ?_) #[true, true, true, true, true, true, true, true, true, true, true, true, true, true, false, false, false, false, false, false, false, false, false, false, false, false, false, false] rfl rfl (by kernel_rfl) (fun _ _ _ h => h) (Or.inl ⟨by rfl, ?_⟩) ?_ ?_
    rotate_left
    · intro w'
      go_simp
      with_reducible rfl
    rotate_left
    · simp only [Act.put, List.setIfInBounds_toArray, List.set_cons_zero, List.set_cons_succ, i64_w, i32_w]
      rfl
    refine pure_ (i := 14) (N := some 48) (v := ?_) (a' := ?_) #[true, true, true, true, true, true, true, true, true, true, true, true, true, true, true, false, false, false, false, false, false, false, false, false, false, false, false, false] rfl rfl (by kernel_rfl) (fun _ _ _ h => h) (Or.inl ⟨by rfl, ?_⟩) ?_ ?_
    rotate_left
    · intro w'
      go_simp
      with_reducible rfl
    rotate_left
    · simp only [Act.put, List.setIfInBounds_toArray, List.set_cons_zero, List.set_cons_succ, i64_w, i32_w]
      rfl
    refine pure_ (i := 15) (N := some 49) (v := ?_) (a' := ?_) #[true, true, true, true, true, true, true, true, true, true, true, true, true, true, true, true, false, false, false, false, false, false, false, false, false, false, false, false] rfl rfl (by kernel_rfl) (fun _ _ _ h => h) (Or.inl ⟨by rfl, ?_⟩) ?_ ?_
    rotate_left
    · intro w'
      go_simp
      with_reducible rfl
    rotate_left
    · simp only [Act.put, List.setIfInBounds_toArray, List.set_cons_zero, List.set_cons_succ, i64_w, i32_w]
      rfl
    refine pure_ (i := 16) (N := some 50) (v := ?_) (a' := ?_) #[true, true, true, true, true, true, true, true, true, true, true, true, true, true, true, true, true, false, false, false, false, false, false, false, false, false, false, false] rfl rfl (by kernel_rfl) (fun _ _ _ h => h) (Or.inl ⟨by rfl, ?_⟩) ?_ ?_
    rotate_left
    · intro w'
      go_simp
      with_reducible rfl
    rotate_left
    · simp only [Act.put, List.setIfInBounds_toArray, List.set_cons_zero, List.set_cons_succ, i64_w, i32_w]
      rfl
    refine pure_ (i := 17) (N := some 51) (v := ?_) (a' := ?_) #[true, true, true, true, true, true, true, true, true, true, true, true, true, true, true, true, true, true, false, false, false, false, false, false, false, false, false, false] rfl rfl (by kernel_rfl) (fun _ _ _ h => h) (Or.inl ⟨by rfl, ?_⟩) ?_ ?_
    rotate_left
    · intro w'
      go_simp
      with_reducible rfl
    rotate_left
    · simp only [Act.put, List.setIfInBounds_toArray, List.set_cons_zero, List.set_cons_succ, i64_w, i32_w]
      rfl
    refine pure_ (i := 18) (N := some 52) (v := ?_) (a' := ?_) #[true, true, true, true, true, true, true, true, true, true, true, true, true, true, true, true, true, true, true, false, false, false, false, false, false, false, false, false] rfl rfl (by kernel_rfl) (fun _ _ _ h => h) (Or.inl ⟨by rfl, ?_⟩) ?_ ?_
    rotate_left
    · intro w'
      go_simp
      with_reducible rfl
    rotate_left
    · simp only [Act.put, List.setIfInBounds_toArray, List.set_cons_zero, List.set_cons_succ, i64_w, i32_w]
      rfl
    refine pure_ (i := 19) (N := some 53) (v := ?_) (a' := ?_) #[true, true, true, true, true, true, true, true, true, true, true, true, true, true, true, true, true, true, true, true, false, false, false, false, false, false, false, false] rfl rfl (by kernel_rfl) (fun _ _ _ h => h) (Or.inl ⟨by rfl, ?_⟩) ?_ ?_
    rotate_left
    · intro w'
      go_simp
      with_reducible rfl
    rotate_left
    · simp only [Act.put, List.setIfInBounds_toArray, List.set_cons_zero, List.set_cons_succ, i64_w, i32_w]
      rfl
    refine pure_ (i := 20) (N := some 54) (v := ?_) (a' := ?_) #[true, true, true, true, true, true, true, true, true, true, true, true, true, true, true, true, true, true, true, true, true, false, false, false, false, false, false, false] rfl rfl (by kernel_rfl) (fun _ _ _ h => h) (Or.inl ⟨by rfl, ?_⟩) ?_ ?_
    rotate_left
    · intro w'
      go_simp
      with_reducible rfl
    rotate_left
    · simp only [Act.put, List.setIfInBounds_toArray, List.set_cons_zero, List.set_cons_succ, i64_w, i32_w]
      rfl
    refine pure_ (i := 23) (N := some 57) (v := ?_) (a' := ?_) #[true, true, true, true, true, true, true, true, true, true, true, true, true, true, true, true, true, true, true, true, true, false, false, true, false, false, false, false] rfl rfl (by kernel_rfl) (fun _ _ _ h => h) (Or.inl ⟨by rfl, ?_⟩) ?_ ?_
    rotate_left
    · intro w'
      go_simp
      with_reducible rfl
    rotate_left
    · simp only [Act.put, List.setIfInBounds_toArray, List.set_cons_zero, List.set_cons_succ, i64_w, i32_w]
      rfl
    refine take_ (i := 21) (N := some 55) (v := ?_) (a' := ?_) #[true, true, true, true, true, true, true, true, true, true, true, true, true, true, true, true, true, true, true, true, true, true, false, true, false, false, false, false] rfl rfl (by kernel_rfl) (fun _ _ _ h => h) (Or.inl ⟨by rfl, ?_⟩) hHeld ?_ ?_
    rotate_left
    · rintro w' ⟨s0, s1⟩
      go_simp
      with_reducible rfl
    rotate_left
    · simp only [Act.put, List.setIfInBounds_toArray, List.set_cons_zero, List.set_cons_succ, i64_w, i32_w]
      rfl
    refine take_ (i := 24) (N := some 58) (v := ?_) (a' := ?_) #[true, true, true, true, true, true, true, true, true, true, true, true, true, true, true, true, true, true, true, true, true, true, false, true, true, false, false, false] rfl rfl (by kernel_rfl) (fun _ _ _ h => h) (Or.inl ⟨by rfl, ?_⟩) hHeld ?_ ?_
    rotate_left
    · rintro w' ⟨s0, s1⟩
      go_simp
      with_reducible rfl
    rotate_left
    · simp only [Act.put, List.setIfInBounds_toArray, List.set_cons_zero, List.set_cons_succ, i64_w, i32_w]
      rfl
    refine one_ (i := 22) (N := some 56) #[true, true, true, true, true, true, true, true, true, true, true, true, true, true, true, true, true, true, true, true, true, true, true, true, true, false, false, false] rfl rfl (by kernel_rfl) (by decide) (fun K hK => ?_)
    refine goes_ Try.func53 (by kernel_rfl) rfl #[.int .i64 k] (by rfl) rfl rfl (by first | (simp only [List.map_toArray, List.map_cons, List.map_nil]; done) | (simp only [List.map_toArray, List.map_cons, List.map_nil]; rfl)) ?_
    with_reducible refine (Word_walk k sw _ HSW.out).mono ?_
    rintro e w7 ⟨rfl, hb⟩
    refine ⟨_, rfl, ?_⟩
    have hx7 := blk_below (blk_drew HX6.out) hb
    have HX7 := Aside0.mk hx7
    have hc07 : w7.cell? ⟨w.heap.size, 0, none⟩ = some (.int .i64 k) := (blk_cell hx7 0).trans rfl
    have HB7 := Aside0.mk (below_then (below_drew HB6.out) HB6.out.size hb)
    have HC7 := Aside0.mk (Kd.C_below HC6.out (below_step (below_drew (Below.refl _ _)) hb))
    have hcv7 := Kd.C_string (P := Try.prog) (c := c2) Try.underlying22 Try.underlying5 Try.underlying9 HC7.out
    rw [HS1.out] at hcv7
    clear hb hx7
    refine hK.out _ _ ⟨hc07, hcv7⟩ (fun hHeld => ?_)
    clear hK K
    refine norm_ (a' := ?_) ?_ ?_
    rotate_left
    · show Act.put _ (some 56) _ = _
      simp only [Act.put, List.setIfInBounds_toArray, List.set_cons_zero, List.set_cons_succ, i64_w, i32_w]
      rfl
    refine one_ (i := 25) (N := some 59) #[true, true, true, true, true, true, true, true, true, true, true, true, true, true, true, true, true, true, true, true, true, true, true, true, true, true, false, false] rfl rfl (by kernel_rfl) (by decide) (fun K hK => ?_)
    refine goes_ Try.func54 (by kernel_rfl) rfl #[.int .i64 k] (by rfl) rfl rfl (by first | (simp only [List.map_toArray, List.map_cons, List.map_nil]; done) | (simp only [List.map_toArray, List.map_cons, List.map_nil]; rfl)) ?_
    with_reducible refine (yb_rword k sw _ HSW.out).mono ?_
    rintro e w8 ⟨rfl, hb⟩
    refine ⟨_, rfl, ?_⟩
    have hx8 := blk_below HX7.out hb
    have HX8 := Aside0.mk hx8
    have hc08 : w8.cell? ⟨w.heap.size, 0, none⟩ = some (.int .i64 k) := (blk_cell hx8 0).trans rfl
    have HB8 := Aside0.mk (below_then HB7.out HB7.out.size hb)
    have HC8 := Aside0.mk (Kd.C_below HC7.out hb)
    have hcv8 := Kd.C_string (P := Try.prog) (c := c2) Try.underlying22 Try.underlying5 Try.underlying9 HC8.out
    rw [HS1.out] at hcv8
    clear hb hx8
    refine hK.out _ _ ⟨hc08, hcv8⟩ (fun hHeld => ?_)
    clear hK K
    refine norm_ (a' := ?_) ?_ ?_
    rotate_left
    · show Act.put _ (some 59) _ = _
      simp only [Act.put, List.setIfInBounds_toArray, List.set_cons_zero, List.set_cons_succ, i64_w, i32_w]
      rfl
    refine pure_ (i := 26) (N := some 60) (v := ?_) (a' := ?_) #[true, true, true, true, true, true, true, true, true, true, true, true, true, true, true, true, true, true, true, true, true, true, true, true, true, true, true, false] rfl rfl (by kernel_rfl) (fun _ _ _ h => h) (Or.inl ⟨by rfl, ?_⟩) ?_ ?_
    rotate_left
    · intro w'
      go_simp
      with_reducible rfl
    rotate_left
    · simp only [Act.put, List.setIfInBounds_toArray, List.set_cons_zero, List.set_cons_succ, i64_w, i32_w]
      rfl
    refine pure_ (i := 27) (N := some 61) (v := ?_) (a' := ?_) #[true, true, true, true, true, true, true, true, true, true, true, true, true, true, true, true, true, true, true, true, true, true, true, true, true, true, true, true] rfl rfl (by kernel_rfl) (fun _ _ _ h => h) (Or.inl ⟨by rfl, ?_⟩) ?_ ?_
    rotate_left
    · intro w'
      go_simp
      with_reducible rfl
    rotate_left
    · simp only [Act.put, List.setIfInBounds_toArray, List.set_cons_zero, List.set_cons_succ, i64_w, i32_w]
      rfl
    refine done_ (by kernel_rfl) ?_
    all_goals go_wp2_with (first | (go_at_call 46; go_must (refine (yb_of A2 c2 c1 k2 r2 _ HC8.out HK1.out H8.out.1 (by have := H8.out.2; omega) HKK.out).mono ?_); rintro e w9 ⟨rfl, hb⟩; have HB9 := Aside0.mk (below_then HB8.out HB8.out.size hb); have hx9 := blk_below HX8.out hb; have HX9 := Aside0.mk hx9; clear hb hx9) | (go_at_call 45; refine (prolepsislaw22_known.calls true _ rfl).mono ?_; rintro e wa ⟨rfl, hb⟩; have HBa := Aside0.mk (below_then (below_alloc HB9.out _) (below_alloc HB9.out _).size hb); have hxa := blk_below (blk_alloc HX9.out (.cells #[.int .i64 k2, .int .i32 r2] 70)) hb; have hya := blk_below (blk_new w9 (.cells #[.int .i64 k2, .int .i32 r2] 70)) hb; have ha0 : wa.cell? ⟨w.heap.size, 0, none⟩ = some (.int .i64 k) := (blk_cell hxa 0).trans rfl; have ha1 : wa.cell? ⟨w.heap.size, 1, none⟩ = some (.int .i32 r) := (blk_cell hxa 1).trans rfl; have hb0 : wa.cell? ⟨w9.heap.size, 0, none⟩ = some (.int .i64 k2) := (blk_cell hya 0).trans rfl; have hb1 : wa.cell? ⟨w9.heap.size, 1, none⟩ = some (.int .i32 r2) := (blk_cell hya 1).trans rfl; clear hb hxa hya))
    all_goals go_ret
    all_goals exact ⟨rfl, HBa.out⟩
  · obtain ⟨r', e1, e2⟩ := HOF.out rfl
    injection e1 with e3 e4
    obtain rfl : k = k2 := e3.symm
    by_cases h1 : k = 1
    · obtain rfl : r = r2 := (e4.trans (e2 h1)).symm
      clear e2 h1 e3 e4
      go_wp2_with (first | (go_at_call 47; go_must (refine (yb_any k r c1 true _ HBB.out).mono ?_); rintro e w1 ⟨A2, c2, rfl, hc2, hC2, hb⟩; have hx1 := blk_below HX0.out hb; have HX1 := Aside0.mk hx1; have hc01 : w1.cell? ⟨w.heap.size, 0, none⟩ = some (.int .i64 k) := (blk_cell hx1 0).trans rfl; have hc11 : w1.cell? ⟨w.heap.size, 1, none⟩ = some (.int .i32 r) := (blk_cell hx1 1).trans rfl; have HB1 := Aside0.mk (below_then HB0.out HB0.out.size hb); clear hx1; have HC1 := Aside0.mk hC2; have HK1 := Aside0.mk hc2; clear hb hC2 hc2) | (go_at_call 48; (with_reducible refine (yb_law k r w4 H32.out).mono ?_); rintro e w5 ⟨rfl, hb⟩; have hx5 := blk_below HX4.out hb; have HX5 := Aside0.mk hx5; have hc05 : w5.cell? ⟨w.heap.size, 0, none⟩ = some (.int .i64 k) := (blk_cell hx5 0).trans rfl; have hc15 : w5.cell? ⟨w.heap.size, 1, none⟩ = some (.int .i32 r) := (blk_cell hx5 1).trans rfl; have HB5 := Aside0.mk (below_then HB4.out HB4.out.size hb); clear hx5; have HC5 := Aside0.mk (Kd.C_below HC4.out hb); clear hb) | (go_at_call 50; go_must (refine (yb_ref k r s1 true _ HRB.out).mono ?_); rintro e w3 ⟨rfl, hb⟩; have hx3 := blk_below HX2.out hb; have HX3 := Aside0.mk hx3; have hc03 : w3.cell? ⟨w.heap.size, 0, none⟩ = some (.int .i64 k) := (blk_cell hx3 0).trans rfl; have hc13 : w3.cell? ⟨w.heap.size, 1, none⟩ = some (.int .i32 r) := (blk_cell hx3 1).trans rfl; have HB3 := Aside0.mk (below_then HB2.out HB2.out.size hb); clear hx3; have HC3 := Aside0.mk (Kd.C_below HC2.out hb); clear hb) | (go_at_call 51; go_must (refine (yb_moves k r m1 m2 _ HMV.out).mono ?_); rintro e w4 ⟨rfl, hb⟩; have hx4 := blk_below HX3.out hb; have HX4 := Aside0.mk hx4; have hc04 : w4.cell? ⟨w.heap.size, 0, none⟩ = some (.int .i64 k) := (blk_cell hx4 0).trans rfl; have hc14 : w4.cell? ⟨w.heap.size, 1, none⟩ = some (.int .i32 r) := (blk_cell hx4 1).trans rfl; have HB4 := Aside0.mk (below_then HB3.out HB3.out.size hb); clear hx4; have HC4 := Aside0.mk (Kd.C_below HC3.out hb); clear hb) | (go_at_call 48; (with_reducible refine (yb_law k r w1 H32.out).mono ?_); rintro e w2 ⟨rfl, hb⟩; have hx2 := blk_below HX1.out hb; have HX2 := Aside0.mk hx2; have hc02 : w2.cell? ⟨w.heap.size, 0, none⟩ = some (.int .i64 k) := (blk_cell hx2 0).trans rfl; have hc12 : w2.cell? ⟨w.heap.size, 1, none⟩ = some (.int .i32 r) := (blk_cell hx2 1).trans rfl; have HB2 := Aside0.mk (below_then HB1.out HB1.out.size hb); clear hx2; have HC2 := Aside0.mk (Kd.C_below HC1.out hb); clear hb) | (go_at_call 52; go_must (refine (yb_rmoves k r m1 m2 _ HMV.out).mono ?_); rintro e w6 ⟨rfl, hb⟩; have hx6 := blk_below HX5.out hb; have HX6 := Aside0.mk hx6; have hc06 : w6.cell? ⟨w.heap.size, 0, none⟩ = some (.int .i64 k) := (blk_cell hx6 0).trans rfl; have hc16 : w6.cell? ⟨w.heap.size, 1, none⟩ = some (.int .i32 r) := (blk_cell hx6 1).trans rfl; have HB6 := Aside0.mk (below_then HB5.out HB5.out.size hb); clear hx6; have HC6 := Aside0.mk (Kd.C_below HC5.out hb); have hcv := Kd.C_string (P := Try.prog) (c := c2) Try.underlying22 Try.underlying5 Try.underlying9 (Kd.C_below HC6.out (below_drew (Below.refl _ _))); rw [HS1.out] at hcv; clear hb))
      refine start_ (n := 28) (S := fun w' => w'.cell? ⟨w.heap.size, 0, none⟩ = some (.int .i64 k) ∧ (Go.convert 22 9 (.slice A2 c1.length c2)).run Try.prog w' = .ok (.string s1) w') (ds := []) #[false, false, false, false, false, false, false, false, false, false, false, false, false, false, false, false, false, false, false, false, false, false, false, false, false, false, false, false] (by kernel_rfl) rfl rfl ⟨hc06, hcv⟩ (fun hHeld => ?_)
      refine pure_ (i := 0) (N := some 34) (v := ?_) (a' := ?_) #[true, false, false, false, false, false, false, false, false, false, false, false, false, false, false, false, false, false, false, false, false, false, false, false, false, false, false, false] rfl rfl (by kernel_rfl) (fun _ _ _ h => h) (Or.inl ⟨by rfl, ?_⟩) ?_ ?_
      rotate_left
      · intro w'
        go_simp
        with_reducible rfl
      rotate_left
      · simp only [Act.put, List.setIfInBounds_toArray, List.set_cons_zero, List.set_cons_succ, i64_w, i32_w]
        rfl
      refine pure_ (i := 2) (N := some 36) (v := ?_) (a' := ?_) #[true, false, true, false, false, false, false, false, false, false, false, false, false, false, false, false, false, false, false, false, false, false, false, false, false, false, false, false] rfl rfl (by kernel_rfl) (fun _ _ _ h => h) (Or.inl ⟨by rfl, ?_⟩) ?_ ?_
      rotate_left
      · intro w'
        go_simp
        with_reducible rfl
      rotate_left
      · simp only [Act.put, List.setIfInBounds_toArray, List.set_cons_zero, List.set_cons_succ, i64_w, i32_w]
        rfl
      refine take_ (i := 1) (N := some 35) (v := ?_) (a' := ?_) #[true, true, true, false, false, false, false, false, false, false, false, false, false, false, false, false, false, false, false, false, false, false, false, false, false, false, false, false] rfl rfl (by kernel_rfl) (fun _ _ _ h => h) (Or.inl ⟨by rfl, ?_⟩) hHeld ?_ ?_
      rotate_left
      · rintro w' ⟨s0, s1⟩
        go_simp
        with_reducible rfl
      rotate_left
      · simp only [Act.put, List.setIfInBounds_toArray, List.set_cons_zero, List.set_cons_succ, i64_w, i32_w]
        rfl
      refine pure_ (i := 3) (N := some 37) (v := ?_) (a' := ?_) #[true, true, true, true, false, false, false, false, false, false, false, false, false, false, false, false, false, false, false, false, false, false, false, false, false, false, false, false] rfl rfl (by kernel_rfl) (fun _ _ _ h => h) (Or.inl ⟨by rfl, ?_⟩) ?_ ?_
      rotate_left
      · intro w'
        go_simp
        with_reducible rfl
      rotate_left
      · simp only [Act.put, List.setIfInBounds_toArray, List.set_cons_zero, List.set_cons_succ, i64_w, i32_w]
        rfl
      refine pure_ (i := 4) (N := some 38) (v := ?_) (a' := ?_) #[true, true, true, true, true, false, false, false, false, false, false, false, false, false, false, false, false, false, false, false, false, false, false, false, false, false, false, false] rfl rfl (by kernel_rfl) (fun _ _ _ h => h) (Or.inl ⟨by rfl, ?_⟩) ?_ ?_
      rotate_left
      · intro w'
        go_simp
        with_reducible rfl
      rotate_left
      · simp only [Act.put, List.setIfInBounds_toArray, List.set_cons_zero, List.set_cons_succ, i64_w, i32_w]
        rfl
      refine pure_ (i := 5) (N := some 39) (v := ?_) (a' := ?_) #[true, true, true, true, true, true, false, false, false, false, false, false, false, false, false, false, false, false, false, false, false, false, false, false, false, false, false, false] rfl rfl (by kernel_rfl) (fun _ _ _ h => h) (Or.inl ⟨by rfl, ?_⟩) ?_ ?_
      rotate_left
      · intro w'
        go_simp
        with_reducible rfl
      rotate_left
      · simp only [Act.put, List.setIfInBounds_toArray, List.set_cons_zero, List.set_cons_succ, i64_w, i32_w]
        rfl
      refine pure_ (i := 6) (N := some 40) (v := ?_) (a' := ?_) #[true, true, true, true, true, true, true, false, false, false, false, false, false, false, false, false, false, false, false, false, false, false, false, false, false, false, false, false] rfl rfl (by kernel_rfl) (fun _ _ _ h => h) (Or.inl ⟨by rfl, ?_⟩) ?_ ?_
      rotate_left
      · intro w'
        go_simp
        with_reducible rfl
      rotate_left
      · simp only [Act.put, List.setIfInBounds_toArray, List.set_cons_zero, List.set_cons_succ, i64_w, i32_w]
        rfl
      refine pure_ (i := 7) (N := some 41) (v := ?_) (a' := ?_) #[true, true, true, true, true, true, true, true, false, false, false, false, false, false, false, false, false, false, false, false, false, false, false, false, false, false, false, false] rfl rfl (by kernel_rfl) (fun _ _ _ h => h) (Or.inl ⟨by rfl, ?_⟩) ?_ ?_
      rotate_left
      · intro w'
        go_simp
        with_reducible rfl
      rotate_left
      · simp only [Act.put, List.setIfInBounds_toArray, List.set_cons_zero, List.set_cons_succ, i64_w, i32_w]
        rfl
      refine pure_ (i := 8) (N := some 42) (v := ?_) (a' := ?_) #[true, true, true, true, true, true, true, true, true, false, false, false, false, false, false, false, false, false, false, false, false, false, false, false, false, false, false, false] rfl rfl (by kernel_rfl) (fun _ _ _ h => h) (Or.inl ⟨by rfl, ?_⟩) ?_ ?_
      rotate_left
      · intro w'
        go_simp
        with_reducible rfl
      rotate_left
      · simp only [Act.put, List.setIfInBounds_toArray, List.set_cons_zero, List.set_cons_succ, i64_w, i32_w]
        rfl
      refine pure_ (i := 9) (N := some 43) (v := ?_) (a' := ?_) #[true, true, true, true, true, true, true, true, true, true, false, false, false, false, false, false, false, false, false, false, false, false, false, false, false, false, false, false] rfl rfl (by kernel_rfl) (fun _ _ _ h => h) (Or.inl ⟨by rfl, ?_⟩) ?_ ?_
      rotate_left
      · intro w'
        go_simp
        with_reducible rfl
      rotate_left
      · simp only [Act.put, List.setIfInBounds_toArray, List.set_cons_zero, List.set_cons_succ, i64_w, i32_w]
        rfl
      refine pure_ (i := 10) (N := some 44) (v := ?_) (a' := ?_) #[true, true, true, true, true, true, true, true, true, true, true, false, false, false, false, false, false, false, false, false, false, false, false, false, false, false, false, false] rfl rfl (by kernel_rfl) (fun _ _ _ h => h) (Or.inl ⟨by rfl, ?_⟩) ?_ ?_
      rotate_left
      · intro w'
        go_simp
        with_reducible rfl
      rotate_left
      · simp only [Act.put, List.setIfInBounds_toArray, List.set_cons_zero, List.set_cons_succ, i64_w, i32_w]
        rfl
      refine pure_ (i := 11) (N := some 45) (v := ?_) (a' := ?_) #[true, true, true, true, true, true, true, true, true, true, true, true, false, false, false, false, false, false, false, false, false, false, false, false, false, false, false, false] rfl rfl (by kernel_rfl) (fun _ _ _ h => h) (Or.inl ⟨by rfl, ?_⟩) ?_ ?_
      rotate_left
      · intro w'
        go_simp
        with_reducible rfl
      rotate_left
      · simp only [Act.put, List.setIfInBounds_toArray, List.set_cons_zero, List.set_cons_succ, i64_w, i32_w]
        rfl
      refine pure_ (i := 12) (N := some 46) (v := ?_) (a' := ?_) #[true, true, true, true, true, true, true, true, true, true, true, true, true, false, false, false, false, false, false, false, false, false, false, false, false, false, false, false] rfl rfl (by kernel_rfl) (fun _ _ _ h => h) (Or.inl ⟨by rfl, ?_⟩) ?_ ?_
      rotate_left
      · intro w'
        go_simp
        with_reducible rfl
      rotate_left
      · simp only [Act.put, List.setIfInBounds_toArray, List.set_cons_zero, List.set_cons_succ, i64_w, i32_w]
        rfl
      refine pure_ (i := 13) (N := some 47) (v := ?_) (a' := ?_) #[true, true, true, true, true, true, true, true, true, true, true, true, true, true, false, false, false, false, false, false, false, false, false, false, false, false, false, false] rfl rfl (by kernel_rfl) (fun _ _ _ h => h) (Or.inl ⟨by rfl, ?_⟩) ?_ ?_
      rotate_left
      · intro w'
        go_simp
        with_reducible rfl
      rotate_left
      · simp only [Act.put, List.setIfInBounds_toArray, List.set_cons_zero, List.set_cons_succ, i64_w, i32_w]
        rfl
      refine pure_ (i := 14) (N := some 48) (v := ?_) (a' := ?_) #[true, true, true, true, true, true, true, true, true, true, true, true, true, true, true, false, false, false, false, false, false, false, false, false, false, false, false, false] rfl rfl (by kernel_rfl) (fun _ _ _ h => h) (Or.inl ⟨by rfl, ?_⟩) ?_ ?_
      rotate_left
      · intro w'
        go_simp
        with_reducible rfl
      rotate_left
      · simp only [Act.put, List.setIfInBounds_toArray, List.set_cons_zero, List.set_cons_succ, i64_w, i32_w]
        rfl
      refine pure_ (i := 15) (N := some 49) (v := ?_) (a' := ?_) #[true, true, true, true, true, true, true, true, true, true, true, true, true, true, true, true, false, false, false, false, false, false, false, false, false, false, false, false] rfl rfl (by kernel_rfl) (fun _ _ _ h => h) (Or.inl ⟨by rfl, ?_⟩) ?_ ?_
      rotate_left
      · intro w'
        go_simp
        with_reducible rfl
      rotate_left
      · simp only [Act.put, List.setIfInBounds_toArray, List.set_cons_zero, List.set_cons_succ, i64_w, i32_w]
        rfl
      refine pure_ (i := 16) (N := some 50) (v := ?_) (a' := ?_) #[true, true, true, true, true, true, true, true, true, true, true, true, true, true, true, true, true, false, false, false, false, false, false, false, false, false, false, false] rfl rfl (by kernel_rfl) (fun _ _ _ h => h) (Or.inl ⟨by rfl, ?_⟩) ?_ ?_
      rotate_left
      · intro w'
        go_simp
        with_reducible rfl
      rotate_left
      · simp only [Act.put, List.setIfInBounds_toArray, List.set_cons_zero, List.set_cons_succ, i64_w, i32_w]
        rfl
      refine pure_ (i := 17) (N := some 51) (v := ?_) (a' := ?_) #[true, true, true, true, true, true, true, true, true, true, true, true, true, true, true, true, true, true, false, false, false, false, false, false, false, false, false, false] rfl rfl (by kernel_rfl) (fun _ _ _ h => h) (Or.inl ⟨by rfl, ?_⟩) ?_ ?_
      rotate_left
      · intro w'
        go_simp
        with_reducible rfl
      rotate_left
      · simp only [Act.put, List.setIfInBounds_toArray, List.set_cons_zero, List.set_cons_succ, i64_w, i32_w]
        rfl
      refine pure_ (i := 18) (N := some 52) (v := ?_) (a' := ?_) #[true, true, true, true, true, true, true, true, true, true, true, true, true, true, true, true, true, true, true, false, false, false, false, false, false, false, false, false] rfl rfl (by kernel_rfl) (fun _ _ _ h => h) (Or.inl ⟨by rfl, ?_⟩) ?_ ?_
      rotate_left
      · intro w'
        go_simp
        with_reducible rfl
      rotate_left
      · simp only [Act.put, List.setIfInBounds_toArray, List.set_cons_zero, List.set_cons_succ, i64_w, i32_w]
        rfl
      refine pure_ (i := 19) (N := some 53) (v := ?_) (a' := ?_) #[true, true, true, true, true, true, true, true, true, true, true, true, true, true, true, true, true, true, true, true, false, false, false, false, false, false, false, false] rfl rfl (by kernel_rfl) (fun _ _ _ h => h) (Or.inl ⟨by rfl, ?_⟩) ?_ ?_
      rotate_left
      · intro w'
        go_simp
        with_reducible rfl
      rotate_left
      · simp only [Act.put, List.setIfInBounds_toArray, List.set_cons_zero, List.set_cons_succ, i64_w, i32_w]
        rfl
      refine pure_ (i := 20) (N := some 54) (v := ?_) (a' := ?_) #[true, true, true, true, true, true, true, true, true, true, true, true, true, true, true, true, true, true, true, true, true, false, false, false, false, false, false, false] rfl rfl (by kernel_rfl) (fun _ _ _ h => h) (Or.inl ⟨by rfl, ?_⟩) ?_ ?_
      rotate_left
      · intro w'
        go_simp
        with_reducible rfl
      rotate_left
      · simp only [Act.put, List.setIfInBounds_toArray, List.set_cons_zero, List.set_cons_succ, i64_w, i32_w]
        rfl
      refine pure_ (i := 23) (N := some 57) (v := ?_) (a' := ?_) #[true, true, true, true, true, true, true, true, true, true, true, true, true, true, true, true, true, true, true, true, true, false, false, true, false, false, false, false] rfl rfl (by kernel_rfl) (fun _ _ _ h => h) (Or.inl ⟨by rfl, ?_⟩) ?_ ?_
      rotate_left
      · intro w'
        go_simp
        with_reducible rfl
      rotate_left
      · simp only [Act.put, List.setIfInBounds_toArray, List.set_cons_zero, List.set_cons_succ, i64_w, i32_w]
        rfl
      refine take_ (i := 21) (N := some 55) (v := ?_) (a' := ?_) #[true, true, true, true, true, true, true, true, true, true, true, true, true, true, true, true, true, true, true, true, true, true, false, true, false, false, false, false] rfl rfl (by kernel_rfl) (fun _ _ _ h => h) (Or.inl ⟨by rfl, ?_⟩) hHeld ?_ ?_
      rotate_left
      · rintro w' ⟨s0, s1⟩
        go_simp
        with_reducible rfl
      rotate_left
      · simp only [Act.put, List.setIfInBounds_toArray, List.set_cons_zero, List.set_cons_succ, i64_w, i32_w]
        rfl
      refine take_ (i := 24) (N := some 58) (v := ?_) (a' := ?_) #[true, true, true, true, true, true, true, true, true, true, true, true, true, true, true, true, true, true, true, true, true, true, false, true, true, false, false, false] rfl rfl (by kernel_rfl) (fun _ _ _ h => h) (Or.inl ⟨by rfl, ?_⟩) hHeld ?_ ?_
      rotate_left
      · rintro w' ⟨s0, s1⟩
        go_simp
        with_reducible rfl
      rotate_left
      · simp only [Act.put, List.setIfInBounds_toArray, List.set_cons_zero, List.set_cons_succ, i64_w, i32_w]
        rfl
      refine one_ (i := 22) (N := some 56) #[true, true, true, true, true, true, true, true, true, true, true, true, true, true, true, true, true, true, true, true, true, true, true, true, true, false, false, false] rfl rfl (by kernel_rfl) (by decide) (fun K hK => ?_)
      refine goes_ Try.func53 (by kernel_rfl) rfl #[.int .i64 k] (by rfl) rfl rfl (by first | (simp only [List.map_toArray, List.map_cons, List.map_nil]; done) | (simp only [List.map_toArray, List.map_cons, List.map_nil]; rfl)) ?_
      with_reducible refine (Word_walk k sw _ HSW.out).mono ?_
      rintro e w7 ⟨rfl, hb⟩
      refine ⟨_, rfl, ?_⟩
      have hx7 := blk_below (blk_drew HX6.out) hb
      have HX7 := Aside0.mk hx7
      have hc07 : w7.cell? ⟨w.heap.size, 0, none⟩ = some (.int .i64 k) := (blk_cell hx7 0).trans rfl
      have HB7 := Aside0.mk (below_then (below_drew HB6.out) HB6.out.size hb)
      have HC7 := Aside0.mk (Kd.C_below HC6.out (below_step (below_drew (Below.refl _ _)) hb))
      have hcv7 := Kd.C_string (P := Try.prog) (c := c2) Try.underlying22 Try.underlying5 Try.underlying9 HC7.out
      rw [HS1.out] at hcv7
      clear hb hx7
      refine hK.out _ _ ⟨hc07, hcv7⟩ (fun hHeld => ?_)
      clear hK K
      refine norm_ (a' := ?_) ?_ ?_
      rotate_left
      · show Act.put _ (some 56) _ = _
        simp only [Act.put, List.setIfInBounds_toArray, List.set_cons_zero, List.set_cons_succ, i64_w, i32_w]
        rfl
      refine one_ (i := 25) (N := some 59) #[true, true, true, true, true, true, true, true, true, true, true, true, true, true, true, true, true, true, true, true, true, true, true, true, true, true, false, false] rfl rfl (by kernel_rfl) (by decide) (fun K hK => ?_)
      refine goes_ Try.func54 (by kernel_rfl) rfl #[.int .i64 k] (by rfl) rfl rfl (by first | (simp only [List.map_toArray, List.map_cons, List.map_nil]; done) | (simp only [List.map_toArray, List.map_cons, List.map_nil]; rfl)) ?_
      with_reducible refine (yb_rword k sw _ HSW.out).mono ?_
      rintro e w8 ⟨rfl, hb⟩
      refine ⟨_, rfl, ?_⟩
      have hx8 := blk_below HX7.out hb
      have HX8 := Aside0.mk hx8
      have hc08 : w8.cell? ⟨w.heap.size, 0, none⟩ = some (.int .i64 k) := (blk_cell hx8 0).trans rfl
      have HB8 := Aside0.mk (below_then HB7.out HB7.out.size hb)
      have HC8 := Aside0.mk (Kd.C_below HC7.out hb)
      have hcv8 := Kd.C_string (P := Try.prog) (c := c2) Try.underlying22 Try.underlying5 Try.underlying9 HC8.out
      rw [HS1.out] at hcv8
      clear hb hx8
      refine hK.out _ _ ⟨hc08, hcv8⟩ (fun hHeld => ?_)
      clear hK K
      refine norm_ (a' := ?_) ?_ ?_
      rotate_left
      · show Act.put _ (some 59) _ = _
        simp only [Act.put, List.setIfInBounds_toArray, List.set_cons_zero, List.set_cons_succ, i64_w, i32_w]
        rfl
      refine pure_ (i := 26) (N := some 60) (v := ?_) (a' := ?_) #[true, true, true, true, true, true, true, true, true, true, true, true, true, true, true, true, true, true, true, true, true, true, true, true, true, true, true, false] rfl rfl (by kernel_rfl) (fun _ _ _ h => h) (Or.inl ⟨by rfl, ?_⟩) ?_ ?_
      rotate_left
      · intro w'
        go_simp
        with_reducible rfl
      rotate_left
      · simp only [Act.put, List.setIfInBounds_toArray, List.set_cons_zero, List.set_cons_succ, i64_w, i32_w]
        rfl
      refine pure_ (i := 27) (N := some 61) (v := ?_) (a' := ?_) #[true, true, true, true, true, true, true, true, true, true, true, true, true, true, true, true, true, true, true, true, true, true, true, true, true, true, true, true] rfl rfl (by kernel_rfl) (fun _ _ _ h => h) (Or.inl ⟨by rfl, ?_⟩) ?_ ?_
      rotate_left
      · intro w'
        go_simp
        with_reducible rfl
      rotate_left
      · simp only [Act.put, List.setIfInBounds_toArray, List.set_cons_zero, List.set_cons_succ, i64_w, i32_w]
        rfl
      refine done_ (by kernel_rfl) ?_
      all_goals go_wp2_with (first | (go_at_call 46; go_must (refine (yb_of A2 c2 c1 k r _ HC8.out HK1.out H8.out.1 (by have := H8.out.2; omega) HKK.out).mono ?_); rintro e w9 ⟨rfl, hb⟩; have HB9 := Aside0.mk (below_then HB8.out HB8.out.size hb); have hx9 := blk_below HX8.out hb; have HX9 := Aside0.mk hx9; clear hb hx9) | (go_at_call 45; refine (prolepsislaw22_known.calls true _ rfl).mono ?_; rintro e wa ⟨rfl, hb⟩; have HBa := Aside0.mk (below_then (below_alloc HB9.out _) (below_alloc HB9.out _).size hb); have hxa := blk_below (blk_alloc HX9.out (.cells #[.int .i64 k, .int .i32 r] 70)) hb; have hya := blk_below (blk_new w9 (.cells #[.int .i64 k, .int .i32 r] 70)) hb; have ha0 : wa.cell? ⟨w.heap.size, 0, none⟩ = some (.int .i64 k) := (blk_cell hxa 0).trans rfl; have ha1 : wa.cell? ⟨w.heap.size, 1, none⟩ = some (.int .i32 r) := (blk_cell hxa 1).trans rfl; have hb0 : wa.cell? ⟨w9.heap.size, 0, none⟩ = some (.int .i64 k) := (blk_cell hya 0).trans rfl; have hb1 : wa.cell? ⟨w9.heap.size, 1, none⟩ = some (.int .i32 r) := (blk_cell hya 1).trans rfl; clear hb hxa hya))
      all_goals go_ret
      all_goals exact ⟨rfl, HBa.out⟩
    · have hT9 : (k != 1) = true := by rw [bne_iff_ne]; exact h1
      clear e2 h1 e3 e4
      go_wp2_with (first | (go_at_call 47; go_must (refine (yb_any k r c1 true _ HBB.out).mono ?_); rintro e w1 ⟨A2, c2, rfl, hc2, hC2, hb⟩; have hx1 := blk_below HX0.out hb; have HX1 := Aside0.mk hx1; have hc01 : w1.cell? ⟨w.heap.size, 0, none⟩ = some (.int .i64 k) := (blk_cell hx1 0).trans rfl; have hc11 : w1.cell? ⟨w.heap.size, 1, none⟩ = some (.int .i32 r) := (blk_cell hx1 1).trans rfl; have HB1 := Aside0.mk (below_then HB0.out HB0.out.size hb); clear hx1; have HC1 := Aside0.mk hC2; have HK1 := Aside0.mk hc2; clear hb hC2 hc2) | (go_at_call 48; (with_reducible refine (yb_law k r w4 H32.out).mono ?_); rintro e w5 ⟨rfl, hb⟩; have hx5 := blk_below HX4.out hb; have HX5 := Aside0.mk hx5; have hc05 : w5.cell? ⟨w.heap.size, 0, none⟩ = some (.int .i64 k) := (blk_cell hx5 0).trans rfl; have hc15 : w5.cell? ⟨w.heap.size, 1, none⟩ = some (.int .i32 r) := (blk_cell hx5 1).trans rfl; have HB5 := Aside0.mk (below_then HB4.out HB4.out.size hb); clear hx5; have HC5 := Aside0.mk (Kd.C_below HC4.out hb); clear hb) | (go_at_call 50; go_must (refine (yb_ref k r s1 true _ HRB.out).mono ?_); rintro e w3 ⟨rfl, hb⟩; have hx3 := blk_below HX2.out hb; have HX3 := Aside0.mk hx3; have hc03 : w3.cell? ⟨w.heap.size, 0, none⟩ = some (.int .i64 k) := (blk_cell hx3 0).trans rfl; have hc13 : w3.cell? ⟨w.heap.size, 1, none⟩ = some (.int .i32 r) := (blk_cell hx3 1).trans rfl; have HB3 := Aside0.mk (below_then HB2.out HB2.out.size hb); clear hx3; have HC3 := Aside0.mk (Kd.C_below HC2.out hb); clear hb) | (go_at_call 51; go_must (refine (yb_moves k r m1 m2 _ HMV.out).mono ?_); rintro e w4 ⟨rfl, hb⟩; have hx4 := blk_below HX3.out hb; have HX4 := Aside0.mk hx4; have hc04 : w4.cell? ⟨w.heap.size, 0, none⟩ = some (.int .i64 k) := (blk_cell hx4 0).trans rfl; have hc14 : w4.cell? ⟨w.heap.size, 1, none⟩ = some (.int .i32 r) := (blk_cell hx4 1).trans rfl; have HB4 := Aside0.mk (below_then HB3.out HB3.out.size hb); clear hx4; have HC4 := Aside0.mk (Kd.C_below HC3.out hb); clear hb) | (go_at_call 48; (with_reducible refine (yb_law k r w1 H32.out).mono ?_); rintro e w2 ⟨rfl, hb⟩; have hx2 := blk_below HX1.out hb; have HX2 := Aside0.mk hx2; have hc02 : w2.cell? ⟨w.heap.size, 0, none⟩ = some (.int .i64 k) := (blk_cell hx2 0).trans rfl; have hc12 : w2.cell? ⟨w.heap.size, 1, none⟩ = some (.int .i32 r) := (blk_cell hx2 1).trans rfl; have HB2 := Aside0.mk (below_then HB1.out HB1.out.size hb); clear hx2; have HC2 := Aside0.mk (Kd.C_below HC1.out hb); clear hb) | (go_at_call 52; go_must (refine (yb_rmoves k r m1 m2 _ HMV.out).mono ?_); rintro e w6 ⟨rfl, hb⟩; have hx6 := blk_below HX5.out hb; have HX6 := Aside0.mk hx6; have hc06 : w6.cell? ⟨w.heap.size, 0, none⟩ = some (.int .i64 k) := (blk_cell hx6 0).trans rfl; have hc16 : w6.cell? ⟨w.heap.size, 1, none⟩ = some (.int .i32 r) := (blk_cell hx6 1).trans rfl; have HB6 := Aside0.mk (below_then HB5.out HB5.out.size hb); clear hx6; have HC6 := Aside0.mk (Kd.C_below HC5.out hb); have hcv := Kd.C_string (P := Try.prog) (c := c2) Try.underlying22 Try.underlying5 Try.underlying9 (Kd.C_below HC6.out (below_drew (Below.refl _ _))); rw [HS1.out] at hcv; clear hb))
      refine start_ (n := 28) (S := fun w' => w'.cell? ⟨w.heap.size, 0, none⟩ = some (.int .i64 k) ∧ (Go.convert 22 9 (.slice A2 c1.length c2)).run Try.prog w' = .ok (.string s1) w') (ds := []) #[false, false, false, false, false, false, false, false, false, false, false, false, false, false, false, false, false, false, false, false, false, false, false, false, false, false, false, false] (by kernel_rfl) rfl rfl ⟨hc06, hcv⟩ (fun hHeld => ?_)
      refine pure_ (i := 0) (N := some 34) (v := ?_) (a' := ?_) #[true, false, false, false, false, false, false, false, false, false, false, false, false, false, false, false, false, false, false, false, false, false, false, false, false, false, false, false] rfl rfl (by kernel_rfl) (fun _ _ _ h => h) (Or.inl ⟨by rfl, ?_⟩) ?_ ?_
      rotate_left
      · intro w'
        go_simp
        with_reducible rfl
      rotate_left
      · simp only [Act.put, List.setIfInBounds_toArray, List.set_cons_zero, List.set_cons_succ, i64_w, i32_w]
        rfl
      refine pure_ (i := 2) (N := some 36) (v := ?_) (a' := ?_) #[true, false, true, false, false, false, false, false, false, false, false, false, false, false, false, false, false, false, false, false, false, false, false, false, false, false, false, false] rfl rfl (by kernel_rfl) (fun _ _ _ h => h) (Or.inl ⟨by rfl, ?_⟩) ?_ ?_
      rotate_left
      · intro w'
        go_simp
        with_reducible rfl
      rotate_left
      · simp only [Act.put, List.setIfInBounds_toArray, List.set_cons_zero, List.set_cons_succ, i64_w, i32_w]
        rfl
      refine take_ (i := 1) (N := some 35) (v := ?_) (a' := ?_) #[true, true, true, false, false, false, false, false, false, false, false, false, false, false, false, false, false, false, false, false, false, false, false, false, false, false, false, false] rfl rfl (by kernel_rfl) (fun _ _ _ h => h) (Or.inl ⟨by rfl, ?_⟩) hHeld ?_ ?_
      rotate_left
      · rintro w' ⟨s0, s1⟩
        go_simp
        with_reducible rfl
      rotate_left
      · simp only [Act.put, List.setIfInBounds_toArray, List.set_cons_zero, List.set_cons_succ, i64_w, i32_w]
        rfl
      refine pure_ (i := 3) (N := some 37) (v := ?_) (a' := ?_) #[true, true, true, true, false, false, false, false, false, false, false, false, false, false, false, false, false, false, false, false, false, false, false, false, false, false, false, false] rfl rfl (by kernel_rfl) (fun _ _ _ h => h) (Or.inl ⟨by rfl, ?_⟩) ?_ ?_
      rotate_left
      · intro w'
        go_simp
        with_reducible rfl
      rotate_left
      · simp only [Act.put, List.setIfInBounds_toArray, List.set_cons_zero, List.set_cons_succ, i64_w, i32_w]
        rfl
      refine pure_ (i := 4) (N := some 38) (v := ?_) (a' := ?_) #[true, true, true, true, true, false, false, false, false, false, false, false, false, false, false, false, false, false, false, false, false, false, false, false, false, false, false, false] rfl rfl (by kernel_rfl) (fun _ _ _ h => h) (Or.inl ⟨by rfl, ?_⟩) ?_ ?_
      rotate_left
      · intro w'
        go_simp
        with_reducible rfl
      rotate_left
      · simp only [Act.put, List.setIfInBounds_toArray, List.set_cons_zero, List.set_cons_succ, i64_w, i32_w]
        rfl
      refine pure_ (i := 5) (N := some 39) (v := ?_) (a' := ?_) #[true, true, true, true, true, true, false, false, false, false, false, false, false, false, false, false, false, false, false, false, false, false, false, false, false, false, false, false] rfl rfl (by kernel_rfl) (fun _ _ _ h => h) (Or.inl ⟨by rfl, ?_⟩) ?_ ?_
      rotate_left
      · intro w'
        go_simp
        with_reducible rfl
      rotate_left
      · simp only [Act.put, List.setIfInBounds_toArray, List.set_cons_zero, List.set_cons_succ, i64_w, i32_w]
        rfl
      refine pure_ (i := 6) (N := some 40) (v := ?_) (a' := ?_) #[true, true, true, true, true, true, true, false, false, false, false, false, false, false, false, false, false, false, false, false, false, false, false, false, false, false, false, false] rfl rfl (by kernel_rfl) (fun _ _ _ h => h) (Or.inl ⟨by rfl, ?_⟩) ?_ ?_
      rotate_left
      · intro w'
        go_simp
        with_reducible rfl
      rotate_left
      · simp only [Act.put, List.setIfInBounds_toArray, List.set_cons_zero, List.set_cons_succ, i64_w, i32_w]
        rfl
      refine pure_ (i := 7) (N := some 41) (v := ?_) (a' := ?_) #[true, true, true, true, true, true, true, true, false, false, false, false, false, false, false, false, false, false, false, false, false, false, false, false, false, false, false, false] rfl rfl (by kernel_rfl) (fun _ _ _ h => h) (Or.inl ⟨by rfl, ?_⟩) ?_ ?_
      rotate_left
      · intro w'
        go_simp
        with_reducible rfl
      rotate_left
      · simp only [Act.put, List.setIfInBounds_toArray, List.set_cons_zero, List.set_cons_succ, i64_w, i32_w]
        rfl
      refine pure_ (i := 8) (N := some 42) (v := ?_) (a' := ?_) #[true, true, true, true, true, true, true, true, true, false, false, false, false, false, false, false, false, false, false, false, false, false, false, false, false, false, false, false] rfl rfl (by kernel_rfl) (fun _ _ _ h => h) (Or.inl ⟨by rfl, ?_⟩) ?_ ?_
      rotate_left
      · intro w'
        go_simp
        with_reducible rfl
      rotate_left
      · simp only [Act.put, List.setIfInBounds_toArray, List.set_cons_zero, List.set_cons_succ, i64_w, i32_w]
        rfl
      refine pure_ (i := 9) (N := some 43) (v := ?_) (a' := ?_) #[true, true, true, true, true, true, true, true, true, true, false, false, false, false, false, false, false, false, false, false, false, false, false, false, false, false, false, false] rfl rfl (by kernel_rfl) (fun _ _ _ h => h) (Or.inl ⟨by rfl, ?_⟩) ?_ ?_
      rotate_left
      · intro w'
        go_simp
        with_reducible rfl
      rotate_left
      · simp only [Act.put, List.setIfInBounds_toArray, List.set_cons_zero, List.set_cons_succ, i64_w, i32_w]
        rfl
      refine pure_ (i := 10) (N := some 44) (v := ?_) (a' := ?_) #[true, true, true, true, true, true, true, true, true, true, true, false, false, false, false, false, false, false, false, false, false, false, false, false, false, false, false, false] rfl rfl (by kernel_rfl) (fun _ _ _ h => h) (Or.inl ⟨by rfl, ?_⟩) ?_ ?_
      rotate_left
      · intro w'
        go_simp
        with_reducible rfl
      rotate_left
      · simp only [Act.put, List.setIfInBounds_toArray, List.set_cons_zero, List.set_cons_succ, i64_w, i32_w]
        rfl
      refine pure_ (i := 11) (N := some 45) (v := ?_) (a' := ?_) #[true, true, true, true, true, true, true, true, true, true, true, true, false, false, false, false, false, false, false, false, false, false, false, false, false, false, false, false] rfl rfl (by kernel_rfl) (fun _ _ _ h => h) (Or.inl ⟨by rfl, ?_⟩) ?_ ?_
      rotate_left
      · intro w'
        go_simp
        with_reducible rfl
      rotate_left
      · simp only [Act.put, List.setIfInBounds_toArray, List.set_cons_zero, List.set_cons_succ, i64_w, i32_w]
        rfl
      refine pure_ (i := 12) (N := some 46) (v := ?_) (a' := ?_) #[true, true, true, true, true, true, true, true, true, true, true, true, true, false, false, false, false, false, false, false, false, false, false, false, false, false, false, false] rfl rfl (by kernel_rfl) (fun _ _ _ h => h) (Or.inl ⟨by rfl, ?_⟩) ?_ ?_
      rotate_left
      · intro w'
        go_simp
        with_reducible rfl
      rotate_left
      · simp only [Act.put, List.setIfInBounds_toArray, List.set_cons_zero, List.set_cons_succ, i64_w, i32_w]
        rfl
      refine pure_ (i := 13) (N := some 47) (v := ?_) (a' := ?_) #[true, true, true, true, true, true, true, true, true, true, true, true, true, true, false, false, false, false, false, false, false, false, false, false, false, false, false, false] rfl rfl (by kernel_rfl) (fun _ _ _ h => h) (Or.inl ⟨by rfl, ?_⟩) ?_ ?_
      rotate_left
      · intro w'
        go_simp
        with_reducible rfl
      rotate_left
      · simp only [Act.put, List.setIfInBounds_toArray, List.set_cons_zero, List.set_cons_succ, i64_w, i32_w]
        rfl
      refine pure_ (i := 14) (N := some 48) (v := ?_) (a' := ?_) #[true, true, true, true, true, true, true, true, true, true, true, true, true, true, true, false, false, false, false, false, false, false, false, false, false, false, false, false] rfl rfl (by kernel_rfl) (fun _ _ _ h => h) (Or.inl ⟨by rfl, ?_⟩) ?_ ?_
      rotate_left
      · intro w'
        go_simp
        with_reducible rfl
      rotate_left
      · simp only [Act.put, List.setIfInBounds_toArray, List.set_cons_zero, List.set_cons_succ, i64_w, i32_w]
        rfl
      refine pure_ (i := 15) (N := some 49) (v := ?_) (a' := ?_) #[true, true, true, true, true, true, true, true, true, true, true, true, true, true, true, true, false, false, false, false, false, false, false, false, false, false, false, false] rfl rfl (by kernel_rfl) (fun _ _ _ h => h) (Or.inl ⟨by rfl, ?_⟩) ?_ ?_
      rotate_left
      · intro w'
        go_simp
        with_reducible rfl
      rotate_left
      · simp only [Act.put, List.setIfInBounds_toArray, List.set_cons_zero, List.set_cons_succ, i64_w, i32_w]
        rfl
      refine pure_ (i := 16) (N := some 50) (v := ?_) (a' := ?_) #[true, true, true, true, true, true, true, true, true, true, true, true, true, true, true, true, true, false, false, false, false, false, false, false, false, false, false, false] rfl rfl (by kernel_rfl) (fun _ _ _ h => h) (Or.inl ⟨by rfl, ?_⟩) ?_ ?_
      rotate_left
      · intro w'
        go_simp
        with_reducible rfl
      rotate_left
      · simp only [Act.put, List.setIfInBounds_toArray, List.set_cons_zero, List.set_cons_succ, i64_w, i32_w]
        rfl
      refine pure_ (i := 17) (N := some 51) (v := ?_) (a' := ?_) #[true, true, true, true, true, true, true, true, true, true, true, true, true, true, true, true, true, true, false, false, false, false, false, false, false, false, false, false] rfl rfl (by kernel_rfl) (fun _ _ _ h => h) (Or.inl ⟨by rfl, ?_⟩) ?_ ?_
      rotate_left
      · intro w'
        go_simp
        with_reducible rfl
      rotate_left
      · simp only [Act.put, List.setIfInBounds_toArray, List.set_cons_zero, List.set_cons_succ, i64_w, i32_w]
        rfl
      refine pure_ (i := 18) (N := some 52) (v := ?_) (a' := ?_) #[true, true, true, true, true, true, true, true, true, true, true, true, true, true, true, true, true, true, true, false, false, false, false, false, false, false, false, false] rfl rfl (by kernel_rfl) (fun _ _ _ h => h) (Or.inl ⟨by rfl, ?_⟩) ?_ ?_
      rotate_left
      · intro w'
        go_simp
        with_reducible rfl
      rotate_left
      · simp only [Act.put, List.setIfInBounds_toArray, List.set_cons_zero, List.set_cons_succ, i64_w, i32_w]
        rfl
      refine pure_ (i := 19) (N := some 53) (v := ?_) (a' := ?_) #[true, true, true, true, true, true, true, true, true, true, true, true, true, true, true, true, true, true, true, true, false, false, false, false, false, false, false, false] rfl rfl (by kernel_rfl) (fun _ _ _ h => h) (Or.inl ⟨by rfl, ?_⟩) ?_ ?_
      rotate_left
      · intro w'
        go_simp
        with_reducible rfl
      rotate_left
      · simp only [Act.put, List.setIfInBounds_toArray, List.set_cons_zero, List.set_cons_succ, i64_w, i32_w]
        rfl
      refine pure_ (i := 20) (N := some 54) (v := ?_) (a' := ?_) #[true, true, true, true, true, true, true, true, true, true, true, true, true, true, true, true, true, true, true, true, true, false, false, false, false, false, false, false] rfl rfl (by kernel_rfl) (fun _ _ _ h => h) (Or.inl ⟨by rfl, ?_⟩) ?_ ?_
      rotate_left
      · intro w'
        go_simp
        with_reducible rfl
      rotate_left
      · simp only [Act.put, List.setIfInBounds_toArray, List.set_cons_zero, List.set_cons_succ, i64_w, i32_w]
        rfl
      refine pure_ (i := 23) (N := some 57) (v := ?_) (a' := ?_) #[true, true, true, true, true, true, true, true, true, true, true, true, true, true, true, true, true, true, true, true, true, false, false, true, false, false, false, false] rfl rfl (by kernel_rfl) (fun _ _ _ h => h) (Or.inl ⟨by rfl, ?_⟩) ?_ ?_
      rotate_left
      · intro w'
        go_simp
        with_reducible rfl
      rotate_left
      · simp only [Act.put, List.setIfInBounds_toArray, List.set_cons_zero, List.set_cons_succ, i64_w, i32_w]
        rfl
      refine take_ (i := 21) (N := some 55) (v := ?_) (a' := ?_) #[true, true, true, true, true, true, true, true, true, true, true, true, true, true, true, true, true, true, true, true, true, true, false, true, false, false, false, false] rfl rfl (by kernel_rfl) (fun _ _ _ h => h) (Or.inl ⟨by rfl, ?_⟩) hHeld ?_ ?_
      rotate_left
      · rintro w' ⟨s0, s1⟩
        go_simp
        with_reducible rfl
      rotate_left
      · simp only [Act.put, List.setIfInBounds_toArray, List.set_cons_zero, List.set_cons_succ, i64_w, i32_w]
        rfl
      refine take_ (i := 24) (N := some 58) (v := ?_) (a' := ?_) #[true, true, true, true, true, true, true, true, true, true, true, true, true, true, true, true, true, true, true, true, true, true, false, true, true, false, false, false] rfl rfl (by kernel_rfl) (fun _ _ _ h => h) (Or.inl ⟨by rfl, ?_⟩) hHeld ?_ ?_
      rotate_left
      · rintro w' ⟨s0, s1⟩
        go_simp
        with_reducible rfl
      rotate_left
      · simp only [Act.put, List.setIfInBounds_toArray, List.set_cons_zero, List.set_cons_succ, i64_w, i32_w]
        rfl
      refine one_ (i := 22) (N := some 56) #[true, true, true, true, true, true, true, true, true, true, true, true, true, true, true, true, true, true, true, true, true, true, true, true, true, false, false, false] rfl rfl (by kernel_rfl) (by decide) (fun K hK => ?_)
      refine goes_ Try.func53 (by kernel_rfl) rfl #[.int .i64 k] (by rfl) rfl rfl (by first | (simp only [List.map_toArray, List.map_cons, List.map_nil]; done) | (simp only [List.map_toArray, List.map_cons, List.map_nil]; rfl)) ?_
      with_reducible refine (Word_walk k sw _ HSW.out).mono ?_
      rintro e w7 ⟨rfl, hb⟩
      refine ⟨_, rfl, ?_⟩
      have hx7 := blk_below (blk_drew HX6.out) hb
      have HX7 := Aside0.mk hx7
      have hc07 : w7.cell? ⟨w.heap.size, 0, none⟩ = some (.int .i64 k) := (blk_cell hx7 0).trans rfl
      have HB7 := Aside0.mk (below_then (below_drew HB6.out) HB6.out.size hb)
      have HC7 := Aside0.mk (Kd.C_below HC6.out (below_step (below_drew (Below.refl _ _)) hb))
      have hcv7 := Kd.C_string (P := Try.prog) (c := c2) Try.underlying22 Try.underlying5 Try.underlying9 HC7.out
      rw [HS1.out] at hcv7
      clear hb hx7
      refine hK.out _ _ ⟨hc07, hcv7⟩ (fun hHeld => ?_)
      clear hK K
      refine norm_ (a' := ?_) ?_ ?_
      rotate_left
      · show Act.put _ (some 56) _ = _
        simp only [Act.put, List.setIfInBounds_toArray, List.set_cons_zero, List.set_cons_succ, i64_w, i32_w]
        rfl
      refine one_ (i := 25) (N := some 59) #[true, true, true, true, true, true, true, true, true, true, true, true, true, true, true, true, true, true, true, true, true, true, true, true, true, true, false, false] rfl rfl (by kernel_rfl) (by decide) (fun K hK => ?_)
      refine goes_ Try.func54 (by kernel_rfl) rfl #[.int .i64 k] (by rfl) rfl rfl (by first | (simp only [List.map_toArray, List.map_cons, List.map_nil]; done) | (simp only [List.map_toArray, List.map_cons, List.map_nil]; rfl)) ?_
      with_reducible refine (yb_rword k sw _ HSW.out).mono ?_
      rintro e w8 ⟨rfl, hb⟩
      refine ⟨_, rfl, ?_⟩
      have hx8 := blk_below HX7.out hb
      have HX8 := Aside0.mk hx8
      have hc08 : w8.cell? ⟨w.heap.size, 0, none⟩ = some (.int .i64 k) := (blk_cell hx8 0).trans rfl
      have HB8 := Aside0.mk (below_then HB7.out HB7.out.size hb)
      have HC8 := Aside0.mk (Kd.C_below HC7.out hb)
      have hcv8 := Kd.C_string (P := Try.prog) (c := c2) Try.underlying22 Try.underlying5 Try.underlying9 HC8.out
      rw [HS1.out] at hcv8
      clear hb hx8
      refine hK.out _ _ ⟨hc08, hcv8⟩ (fun hHeld => ?_)
      clear hK K
      refine norm_ (a' := ?_) ?_ ?_
      rotate_left
      · show Act.put _ (some 59) _ = _
        simp only [Act.put, List.setIfInBounds_toArray, List.set_cons_zero, List.set_cons_succ, i64_w, i32_w]
        rfl
      refine pure_ (i := 26) (N := some 60) (v := ?_) (a' := ?_) #[true, true, true, true, true, true, true, true, true, true, true, true, true, true, true, true, true, true, true, true, true, true, true, true, true, true, true, false] rfl rfl (by kernel_rfl) (fun _ _ _ h => h) (Or.inl ⟨by rfl, ?_⟩) ?_ ?_
      rotate_left
      · intro w'
        go_simp
        with_reducible rfl
      rotate_left
      · simp only [Act.put, List.setIfInBounds_toArray, List.set_cons_zero, List.set_cons_succ, i64_w, i32_w]
        rfl
      refine pure_ (i := 27) (N := some 61) (v := ?_) (a' := ?_) #[true, true, true, true, true, true, true, true, true, true, true, true, true, true, true, true, true, true, true, true, true, true, true, true, true, true, true, true] rfl rfl (by kernel_rfl) (fun _ _ _ h => h) (Or.inl ⟨by rfl, ?_⟩) ?_ ?_
      rotate_left
      · intro w'
        go_simp
        with_reducible rfl
      rotate_left
      · simp only [Act.put, List.setIfInBounds_toArray, List.set_cons_zero, List.set_cons_succ, i64_w, i32_w]
        rfl
      refine done_ (by kernel_rfl) ?_
      all_goals go_wp2_with (first | (go_at_call 46; go_must (refine (yb_of A2 c2 c1 k r2 _ HC8.out HK1.out H8.out.1 (by have := H8.out.2; omega) HKK.out).mono ?_); rintro e w9 ⟨rfl, hb⟩; have HB9 := Aside0.mk (below_then HB8.out HB8.out.size hb); have hx9 := blk_below HX8.out hb; have HX9 := Aside0.mk hx9; clear hb hx9) | (go_at_call 45; refine (prolepsislaw22_known.calls true _ rfl).mono ?_; rintro e wa ⟨rfl, hb⟩; have HBa := Aside0.mk (below_then (below_alloc HB9.out _) (below_alloc HB9.out _).size hb); have hxa := blk_below (blk_alloc HX9.out (.cells #[.int .i64 k, .int .i32 r2] 70)) hb; have hya := blk_below (blk_new w9 (.cells #[.int .i64 k, .int .i32 r2] 70)) hb; have ha0 : wa.cell? ⟨w.heap.size, 0, none⟩ = some (.int .i64 k) := (blk_cell hxa 0).trans rfl; have ha1 : wa.cell? ⟨w.heap.size, 1, none⟩ = some (.int .i32 r) := (blk_cell hxa 1).trans rfl; have hb0 : wa.cell? ⟨w9.heap.size, 0, none⟩ = some (.int .i64 k) := (blk_cell hya 0).trans rfl; have hb1 : wa.cell? ⟨w9.heap.size, 1, none⟩ = some (.int .i32 r2) := (blk_cell hya 1).trans rfl; clear hb hxa hya))
      all_goals go_ret
      all_goals exact ⟨rfl, HBa.out⟩
abbrev kdKey : Kd (Int × Int) := Kd.pair (Kd.int .i64) (Kd.int .i32)
abbrev wfKey (x : Int × Int) : Prop := (Lit.int .i64 x.1).wf = true ∧ (Lit.int .i32 x.2).wf = true
set_option maxRecDepth 100000 in
theorem opn_Key : Opn Try.prog 70 kdKey wfKey := by
  refine @Opn.struct _ _ _ _ _ _ Try.underlying70 (by kernel_rfl) ?_
  refine @Flds.cons _ _ _ _ _ _ _ _ (fun n : Int => (Lit.int .i64 n).wf = true) (fun n : Int => (Lit.int .i32 n).wf = true) ?_ ?_ ?_
  · exact @Opn.int _ _ _ Try.underlying3
  · exact ⟨rfl, by kernel_rfl⟩
  · refine @Flds.one _ _ _ _ _ _ ?_ ?_
    · exact @Opn.int _ _ _ Try.underlying21
    · exact ⟨rfl, by kernel_rfl⟩
set_option maxRecDepth 100000 in
theorem key_arg {base : Nat} {w : World} {v : Value} {x : Int × Int} (hv : Value.okWide Try.prog w .any base 70 v) (hK : kdKey.K w x v.cells.toList) : v = .agg #[.int .i64 x.1, .int .i32 x.2] := by
  obtain ⟨cs, rfl, _⟩ := okWide_struct Try.underlying70 hv
  obtain ⟨e0, e1, he, h0, h1⟩ := hK
  simp [Kd.int, Kd.scalar] at h0 h1
  subst h0 h1
  simp only [Value.cells] at he
  congr 1
  exact Array.toList_inj.1 (by rw [he]; rfl)
set_option maxRecDepth 100000 in
theorem walk_KeyBytes (v0 : Value) (x0 : Int × Int) (w : World) {base : Nat} (hv0 : Value.okWide Try.prog w .any base 70 v0) (hK0 : kdKey.K w x0 v0.cells.toList) (hq0 : wfKey x0) :
    Calls Try.prog 13 #[v0] w fun e w' => e = .returned (.bool true) ∧ Below w.heap.size w w' := by
  rw [key_arg hv0 hK0]
  exact walkKB _ _ w (by have := bounds_i32 hq0.2; omega)
theorem own_KeyBytes : ownKnob Try.prog.godebug = none := by kernel_rfl
theorem laidOut_KeyBytes : laidOutB Try.prog = true := by kernel_rfl
set_option maxRecDepth 100000 in
theorem lifted_KeyBytes (os : Os) (started : os.Started) (H : Type) (enc : TypeId × Value → H) :
    ReturnsInHanded {} Try.checked os 13 .any (Rows.keyBytesSpec.pre6 enc Try.prog Try.f13 Rows.keyBytesRow.domain false) (Rows.keyBytesSpec.post enc Try.prog Try.f13 false true false false) := by
  refine returnsInHanded_of_change (C := Try.checked) own_KeyBytes started (by kernel_rfl) Try.func13
    (ChangeSpec.witness6 (enc := enc) (C := Try.checked) false ⟨#[], #[.agg #[.int .i64 0, .int .i32 0]], []⟩ 8 (by kernel_rfl) (by kernel_rfl) (by kernel_rfl) (by kernel_rfl)) ?_
  intro W base args ds gs before hval0 hW hcnd _
  have hval : ∀ (j : Nat) t v, Try.f13.params[j]? = some t → args[j]? = some v → Value.okWide Try.prog W .any base t v := hval0
  have hW' := hW
  obtain ⟨p, q, hA0, hV, rfl, hfz, hnd⟩ := hW
  have hA : DataW.TrodAll enc Try.prog W 0 (fun _ => true) true Try.f13.params.toList args.toList ds p := hA0
  rw [Try.params13] at hA hval
  obtain ⟨v0, vs0, d0, ds0, p0, q0, hargs, rfl, rfl, h0, r0⟩ := trodAll_cons hA
  obtain ⟨rfl, rfl, rfl⟩ := trodAll_nil r0
  obtain rfl : args = #[v0] := by cases args; simp_all
  obtain ⟨rfl, rfl⟩ := trodVars_none hV
  have k0 := h0
  have lt0 : ∀ x ∈ p0, x.block < W.heap.size := by obtain ⟨m, hm⟩ := k0; exact DataW.trod_lt m _ _ _ hm
  obtain ⟨x0, hK0, hq0⟩ := open_any (fun {H} => @opn_Key H) h0
  refine (walk_KeyBytes v0 x0 W (hval 0 70 v0 rfl rfl) hK0 hq0).mono fun e W' ⟨he, bel⟩ => ?_
  subst he
  exact ⟨_, rfl, _, _, _, [], _, [], hW', trodAll_mk1 (shut_bool Try.underlying4 _), (trodAll_cons_mk (Below.trod laidOut_KeyBytes (by kernel_rfl) (of_decide_eq_true (by kernel_rfl)) k0 bel lt0) trodAll_mk0), rfl, bel.frame _, fun h => by cases h⟩
/-- The row. -/
theorem KeyBytes_holds : Rows.KeyBytesSaid :=
  OpenClaim.holds_of_wide 13 Try.f13 rfl rfl rfl rfl rfl rfl rfl ⟨rfl, rfl, rfl, rfl, rfl⟩ rfl rfl rfl rfl rfl (by kernel_rfl) Try.func13 (by kernel_rfl)
    (of_decide_eq_true (by kernel_rfl)) (by unfold Func.isWrapper; first | (rw [if_pos (by decide +kernel)]; kernel_rfl) | (rw [if_neg (by decide +kernel)]; exact ⟨rfl, rfl⟩))
    (fun os started H enc _ => lifted_KeyBytes os started H enc)
#print axioms KeyBytes_holds
end Go.Proofs.Ytglcopljhanhmaa
