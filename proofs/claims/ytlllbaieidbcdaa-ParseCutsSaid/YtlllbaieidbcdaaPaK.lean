/- parse.Same. -/
import Derived.Test.YtlllbaieidbcdaaPaJ
namespace Go.Proofs.Ytlllbaieidbcdaa.Str
open Go.RowKit Go.Proofs.Ytlllbaieidbcdaa Go.Proofs.Ytlllbaieidbcdaa.PParseEvents Go.Proofs.YtlllbaieidbcdaaW.PrintWords Go.Proofs.YtlllbaieidbcdaaW.PrintLast Go.Proofs.YtlllbaieidbcdaaW.PrintMore
set_option linter.unusedVariables false
set_option linter.unusedSimpArgs false
theorem take_rd {l : List Int} {i : Nat} (h : i < l.length) : l.take (i + 1) = l.take i ++ [rd l (i : Int)] := by
  rw [List.take_add_one]
  simp [rd, List.getD_eq_getElem?_getD, h]
theorem take_at {α : Type} {l : List α} (z : α) {i : Nat} (h : i < l.length) : l.take (i + 1) = l.take i ++ [l.getD i z] := by
  rw [List.take_add_one]
  simp [List.getD_eq_getElem?_getD, h]
theorem app1_inj {α : Type} {a b : List α} {x y : α} (h : a ++ [x] = b ++ [y]) : x = y := by
  have := congrArg List.getLast? h
  simpa using this
set_option maxRecDepth 100000 in
set_option maxHeartbeats 4000000 in
theorem Equal_int (A : Option Addr) (c : Nat) (l : List Int) (A' : Option Addr) (c' : Nat) (m : List Int) (W : World) (hC : Kd.C (Kd.int .i64) W A l.length l) (hC' : Kd.C (Kd.int .i64) W A' m.length m) (hl : l.length ≤ 1000000) (hm : m.length ≤ 1000000) {r : Bool} (hr : decide (l = m) = r) :
    Calls Try.prog 31 #[.slice A l.length c, .slice A' m.length c'] W fun e w' => e = .returned (.bool r) ∧ Below W.heap.size W w' := by
  have HC := Aside0.mk (And.intro hC hC')
  by_cases hlm : l.length = m.length
  case neg =>
    have hT : ((l.length : Int) != (m.length : Int)) = true := by rw [bne_iff_ne]; omega
    obtain rfl : false = r := by rw [← hr, decide_eq_false (fun h => hlm (by rw [h]))]
    clear hC hC' hr hlm
    go_enter Try.func31, Try.ntmps31
    go_wp2
    all_goals go_ret
    all_goals exact ⟨rfl, Below.refl _ _⟩
  case pos =>
    have hT : ((l.length : Int) != (m.length : Int)) = false := by rw [bne_eq_false_iff_eq]; omega
    have HR := Aside0.mk hr
    have HL := Aside0.mk hlm
    clear hC hC' hr hlm
    go_enter Try.func31, Try.ntmps31
    go_wp2
    go_loopg [13] (l.length + 1) (fun kq v13 w' => ∃ (i : Nat), v13 = .int .i64 i ∧ Aside0 (kq + i = l.length + 1 ∧ i ≤ l.length) ∧ Aside0 (l.take i = m.take i) ∧ Aside0 (Below W.heap.size W w'))
    case atStart => exact ⟨0, rfl, ⟨by omega, by omega⟩, ⟨by simp⟩, ⟨Below.refl _ _⟩⟩
    case round =>
      obtain ⟨i, rfl, HK, HT, HB⟩ := hrel
      by_cases hi : i < l.length
      case neg =>
        have hT1 : decide ((i : Int) < (l.length : Int)) = false := decide_eq_false (by omega)
        obtain rfl : true = r := by
          rw [← HR.out, decide_eq_true]
          have := HT.out
          rwa [List.take_of_length_le (by omega), List.take_of_length_le (by have := HL.out; omega)] at this
        go_wp2
        all_goals go_ret
        all_goals exact ⟨rfl, HB.out⟩
      case pos =>
        have hT1 : decide ((i : Int) < (l.length : Int)) = true := decide_eq_true (by omega)
        have him : (i : Int) < (m.length : Int) := by have := HL.out; omega
        obtain ⟨ad, rfl, hc1⟩ := Kd.at_int (Kd.C_below HC.out.1 HB.out) (i : Int) (by omega) (by omega)
        obtain ⟨ad', rfl, hc2⟩ := Kd.at_int (Kd.C_below HC.out.2 HB.out) (i : Int) (by omega) (by omega)
        rw [Int.toNat_natCast] at hc1 hc2
        have htl := take_rd hi
        have htm := take_rd (show i < m.length by omega)
        obtain ⟨x, hx⟩ : ∃ x, rd l (i : Int) = x := ⟨_, rfl⟩
        obtain ⟨y, hy⟩ : ∃ y, rd m (i : Int) = y := ⟨_, rfl⟩
        rw [hx] at hc1 htl
        rw [hy] at hc2 htm
        clear hx hy
        by_cases hxy : x = y
        · subst hxy
          have hT2 : (x != x) = false := by simp
          have HT2 := Aside0.mk (show l.take (i + 1) = m.take (i + 1) by rw [htl, htm, HT.out])
          clear htl htm
          go_wp2
          go_quiet (fail)
          go_wp2
          go_roundg (gk - 1)
          case measure => have := HK.out; omega
          case rel => exact ⟨i + 1, by go_num, ⟨by have := HK.out; omega, by omega⟩, HT2, ⟨below_then HB.out HB.out.size (pw_below_drewN (Below.refl _ _) nq)⟩⟩
        · have hT2 : (x != y) = true := by rw [bne_iff_ne]; exact hxy
          obtain rfl : false = r := by
            rw [← HR.out, decide_eq_false]
            intro h
            rw [h, htm] at htl
            exact hxy (app1_inj htl).symm
          clear htl htm
          go_wp2
          go_quiet (fail)
          go_wp2
          all_goals go_ret
          all_goals exact ⟨rfl, below_then HB.out HB.out.size (pw_below_drewN (Below.refl _ _) nq)⟩
theorem ev_eq {x y : S46} : x = y ↔ x.f0 = y.f0 ∧ x.f1 = y.f1 ∧ x.f2 = y.f2 := ⟨fun h => by subst h; exact ⟨rfl, rfl, rfl⟩, fun h => by cases x; cases y; simp only at h; obtain ⟨rfl, rfl, rfl⟩ := h; rfl⟩
set_option maxRecDepth 100000 in
set_option maxHeartbeats 4000000 in
theorem EvSame_any (x y : S46) (A : Option Addr) (c : Nat) (A' : Option Addr) (c' : Nat) (W : World) (hC : Kd.C (Kd.int .i64) W A x.f2.length x.f2) (hC' : Kd.C (Kd.int .i64) W A' y.f2.length y.f2) (hl : x.f2.length ≤ 1000000) (hm : y.f2.length ≤ 1000000) {r : Bool} (hr : decide (x = y) = r) :
    Calls Try.prog 30 #[.agg #[.int .i64 x.f0, .int .i32 x.f1, .slice A x.f2.length c], .agg #[.int .i64 y.f0, .int .i32 y.f1, .slice A' y.f2.length c']] W fun e w' => e = .returned (.bool r) ∧ Below W.heap.size W w' := by
  have HC := Aside0.mk (And.intro hC hC')
  have HL := Aside0.mk (And.intro hl hm)
  by_cases h0 : x.f0 = y.f0
  case neg =>
    have hT : (x.f0 == y.f0) = false := by rw [beq_eq_false_iff_ne]; exact h0
    obtain rfl : false = r := by rw [← hr, decide_eq_false (fun h => h0 (by rw [h]))]
    clear hC hC' hl hm hr
    go_enter Try.func30, Try.ntmps30
    go_wp2
    all_goals go_ret
    all_goals exact ⟨rfl, (by repeat (first | exact Below.refl _ _ | apply below_alloc | apply pw_below_drewN | apply below_drew1 | (refine Below.setCell ?_ (by simp) _)))⟩
  have hT : (x.f0 == y.f0) = true := by rw [beq_iff_eq]; exact h0
  by_cases h1 : x.f1 = y.f1
  case neg =>
    have hT1 : (x.f1 == y.f1) = false := by rw [beq_eq_false_iff_ne]; exact h1
    obtain rfl : false = r := by rw [← hr, decide_eq_false (fun h => h1 (by rw [h]))]
    clear hC hC' hl hm hr h0
    go_enter Try.func30, Try.ntmps30
    go_wp2
    all_goals go_ret
    all_goals exact ⟨rfl, (by repeat (first | exact Below.refl _ _ | apply below_alloc | apply pw_below_drewN | apply below_drew1 | (refine Below.setCell ?_ (by simp) _)))⟩
  have hT1 : (x.f1 == y.f1) = true := by rw [beq_iff_eq]; exact h1
  have HR := Aside0.mk (show decide (x.f2 = y.f2) = r by rw [← hr, decide_eq_decide]; exact ⟨fun h => ev_eq.2 ⟨h0, h1, h⟩, fun h => by rw [h]⟩)
  clear hC hC' hl hm hr h0 h1
  go_enter Try.func30, Try.ntmps30
  go_wp2_with (first | (go_at_call 31; go_must (refine (Equal_int A c x.f2 A' c' y.f2 _ (Kd.C_below HC.out.1 (by repeat (first | exact Below.refl _ _ | apply below_alloc | apply pw_below_drewN | apply below_drew1 | (refine Below.setCell ?_ (by simp) _)))) (Kd.C_below HC.out.2 (by repeat (first | exact Below.refl _ _ | apply below_alloc | apply pw_below_drewN | apply below_drew1 | (refine Below.setCell ?_ (by simp) _)))) HL.out.1 HL.out.2 HR.out).mono ?_); rintro e w1 ⟨rfl, hb⟩; have H1 := Aside0.mk (show Below W.heap.size W w1 from below_step (by repeat (first | exact Below.refl _ _ | apply below_alloc | apply pw_below_drewN | apply below_drew1 | (refine Below.setCell ?_ (by simp) _))) hb); clear hb))
  all_goals go_ret
  all_goals exact ⟨rfl, H1.out⟩
set_option maxRecDepth 100000 in
set_option maxHeartbeats 4000000 in
theorem EqualFunc_ev (A : Option Addr) (c : Nat) (l : List S46) (A' : Option Addr) (c' : Nat) (m : List S46) (W : World) (hC : Kd.C kEv W A l.length l) (hC' : Kd.C kEv W A' m.length m) (hl : l.length ≤ 1000000) (hm : m.length ≤ 1000000) (hnl : ∀ x ∈ l, x.f2.length ≤ 1000000) (hnm : ∀ x ∈ m, x.f2.length ≤ 1000000) {r : Bool} (hr : decide (l = m) = r) :
    Calls Try.prog 29 #[.slice A l.length c, .slice A' m.length c', .func (.func 30) #[] #[]] W fun e w' => e = .returned (.bool r) ∧ Below W.heap.size W w' := by
  have HC := Aside0.mk (And.intro hC hC')
  have HN := Aside0.mk (And.intro hnl hnm)
  by_cases hlm : l.length = m.length
  case neg =>
    have hT : ((l.length : Int) != (m.length : Int)) = true := by rw [bne_iff_ne]; omega
    obtain rfl : false = r := by rw [← hr, decide_eq_false (fun h => hlm (by rw [h]))]
    clear hC hC' hr hlm hnl hnm
    go_enter Try.func29, Try.ntmps29
    go_wp2
    all_goals go_ret
    all_goals exact ⟨rfl, Below.refl _ _⟩
  case pos =>
    have hT : ((l.length : Int) != (m.length : Int)) = false := by rw [bne_eq_false_iff_eq]; omega
    have HR := Aside0.mk hr
    have HL := Aside0.mk hlm
    clear hC hC' hr hlm hnl hnm
    go_enter Try.func29, Try.ntmps29
    go_wp2
    go_loopg [17] (l.length + 1) (fun kq v17 w' => ∃ (i : Nat), v17 = .int .i64 i ∧ Aside0 (kq + i = l.length + 1 ∧ i ≤ l.length) ∧ Aside0 (l.take i = m.take i) ∧ Aside0 (Below W.heap.size W w'))
    case atStart => exact ⟨0, rfl, ⟨by omega, by omega⟩, ⟨by simp⟩, ⟨Below.refl _ _⟩⟩
    case round =>
      obtain ⟨i, rfl, HK, HT, HB⟩ := hrel
      by_cases hi : i < l.length
      case neg =>
        have hT1 : decide ((i : Int) < (l.length : Int)) = false := decide_eq_false (by omega)
        obtain rfl : true = r := by
          rw [← HR.out, decide_eq_true]
          have := HT.out
          rwa [List.take_of_length_le (by omega), List.take_of_length_le (by have := HL.out; omega)] at this
        go_wp2
        all_goals go_ret
        all_goals exact ⟨rfl, HB.out⟩
      case pos =>
        have hT1 : decide ((i : Int) < (l.length : Int)) = true := decide_eq_true (by omega)
        have him : (i : Int) < (m.length : Int) := by have := HL.out; omega
        have hxl : rd_T46 l (i : Int) ∈ l := by simp [rd_T46, List.getD_eq_getElem?_getD, hi]
        have hyl : rd_T46 m (i : Int) ∈ m := by simp [rd_T46, List.getD_eq_getElem?_getD, show i < m.length by omega]
        obtain ⟨ad, A2, c2, rfl, ha0, ha1, ha2, hac, hA⟩ := at_T46 (Kd.C_below HC.out.1 HB.out) (i : Int) (by omega) (by omega)
        obtain ⟨ad', A3, c3, rfl, hb0, hb1, hb2, hbc, hB⟩ := at_T46 (Kd.C_below HC.out.2 HB.out) (i : Int) (by omega) (by omega)
        rw [Int.toNat_natCast] at ha0 ha1 ha2 hb0 hb1 hb2
        have htl : l.take (i + 1) = l.take i ++ [rd_T46 l (i : Int)] := take_at _ hi
        have htm : m.take (i + 1) = m.take i ++ [rd_T46 m (i : Int)] := take_at _ (show i < m.length by omega)
        have hxn := HN.out.1 _ hxl
        have hyn := HN.out.2 _ hyl
        obtain ⟨x, hx⟩ : ∃ x, rd_T46 l (i : Int) = x := ⟨_, rfl⟩
        obtain ⟨y, hy⟩ : ∃ y, rd_T46 m (i : Int) = y := ⟨_, rfl⟩
        rw [hx] at ha0 ha1 ha2 hac hA htl hxn
        rw [hy] at hb0 hb1 hb2 hbc hB htm hyn
        have hb0 := fun o => (World.cell?_alloc_lt _ o _ (World.block_lt_of_cell? _ _ hb0)).trans hb0
        have hb1 := fun o => (World.cell?_alloc_lt _ o _ (World.block_lt_of_cell? _ _ hb1)).trans hb1
        have hb2 := fun o => (World.cell?_alloc_lt _ o _ (World.block_lt_of_cell? _ _ hb2)).trans hb2
        obtain ⟨q, hq⟩ : ∃ q, decide (x = y) = q := ⟨_, rfl⟩
        have HQ := Aside0.mk hq
        have HXY := Aside0.mk (And.intro hA (And.intro hB (And.intro hxn hyn)))
        have HTT := Aside0.mk (And.intro htl htm)
        clear hx hy hxl hyl htl htm hA hB hxn hyn hq hac hbc
        cases q
        · obtain rfl : false = r := by
            rw [← HR.out, decide_eq_false]
            intro h
            have h1 := HTT.out.1
            rw [h, HTT.out.2] at h1
            exact of_decide_eq_false HQ.out (app1_inj h1).symm
          go_wp2_with (first | (go_at_call 30; go_must (refine (EvSame_any x y A2 c2 A3 c3 _ (Kd.C_below HXY.out.1 (by repeat (first | exact Below.refl _ _ | apply below_alloc | apply pw_below_drewN | apply below_drew1 | (refine Below.setCell ?_ (by simp) _)))) (Kd.C_below HXY.out.2.1 (by repeat (first | exact Below.refl _ _ | apply below_alloc | apply pw_below_drewN | apply below_drew1 | (refine Below.setCell ?_ (by simp) _)))) HXY.out.2.2.1 HXY.out.2.2.2 HQ.out).mono ?_); rintro e w1 ⟨rfl, hb⟩; have H1 := Aside0.mk (show Below W.heap.size W w1 from below_then HB.out HB.out.size (below_step (by repeat (first | exact Below.refl _ _ | apply below_alloc | apply pw_below_drewN | apply below_drew1 | (refine Below.setCell ?_ (by simp) _))) hb)); clear hb))
          all_goals go_ret
          all_goals exact ⟨rfl, H1.out⟩
        · go_wp2_with (first | (go_at_call 30; go_must (refine (EvSame_any x y A2 c2 A3 c3 _ (Kd.C_below HXY.out.1 (by repeat (first | exact Below.refl _ _ | apply below_alloc | apply pw_below_drewN | apply below_drew1 | (refine Below.setCell ?_ (by simp) _)))) (Kd.C_below HXY.out.2.1 (by repeat (first | exact Below.refl _ _ | apply below_alloc | apply pw_below_drewN | apply below_drew1 | (refine Below.setCell ?_ (by simp) _)))) HXY.out.2.2.1 HXY.out.2.2.2 HQ.out).mono ?_); rintro e w1 ⟨rfl, hb⟩; have H1 := Aside0.mk (show Below W.heap.size W w1 from below_then HB.out HB.out.size (below_step (by repeat (first | exact Below.refl _ _ | apply below_alloc | apply pw_below_drewN | apply below_drew1 | (refine Below.setCell ?_ (by simp) _))) hb)); clear hb))
          go_roundg (gk - 1)
          case measure => have := HK.out; omega
          case rel => exact ⟨i + 1, by go_num, ⟨by have := HK.out; omega, by omega⟩, ⟨by rw [HTT.out.1, HTT.out.2, HT.out, of_decide_eq_true HQ.out]⟩, H1⟩
theorem PSame_any (A : Option Addr) (c : Nat) (l : List S46) (A' : Option Addr) (c' : Nat) (m : List S46) (W : World) (hC : Kd.C kEv W A l.length l) (hC' : Kd.C kEv W A' m.length m) (hl : l.length ≤ 1000000) (hm : m.length ≤ 1000000) (hnl : ∀ x ∈ l, x.f2.length ≤ 1000000) (hnm : ∀ x ∈ m, x.f2.length ≤ 1000000) {r : Bool} (hr : decide (l = m) = r) :
    Calls Try.prog 18 #[.slice A l.length c, .slice A' m.length c'] W fun e w' => e = .returned (.bool r) ∧ Below W.heap.size W w' := by
  have HE := Aside0.mk (EqualFunc_ev A c l A' c' m W hC hC' hl hm hnl hnm hr)
  clear hC hC' hl hm hnl hnm hr
  go_enter Try.func18, Try.ntmps18
  go_wp2_with (first | (go_at_call 29; go_must (refine HE.out.mono ?_); rintro e w1 ⟨rfl, hb⟩; have H1 := Aside0.mk hb; clear hb))
  all_goals go_ret
  all_goals exact ⟨rfl, H1.out⟩
end Go.Proofs.Ytlllbaieidbcdaa.Str
