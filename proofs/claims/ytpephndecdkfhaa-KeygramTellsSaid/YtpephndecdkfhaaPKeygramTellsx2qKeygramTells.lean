/- KeygramTells: what its proof leads to. No condition. -/
import Derived.Test.YtpephndecdkfhaaPKeygramTellsx0qKeygramTells
import Derived.Test.YtpephndecdkfhaaPKeygramTellsx1qKeygramTells
import Derived.Test.YtpephndecdkfhaaShortqKeygramTells
namespace Go.Proofs.Ytpephndecdkfhaa.PKeygramTells
open Go.RowKit Go.Proofs.YtpephndecdkfhaaW.PrintWords Go.Proofs.YtpephndecdkfhaaW.PrintLast Go.Proofs.YtpephndecdkfhaaW.PrintMore
attribute [local go_sem] min2_int min_two
set_option linter.unusedVariables false
set_option linter.unusedSimpArgs false

mutual
def prolepsisref14_Check.l0 : Nat → Int → Int → Int → Int → Int → Int → List ByteArray → Option (Int)
  | 0, _, _, _, _, _, _, _ => none
  | k + 1, x3, x127000, x127001, x127002, x127003, x127004, x127005 => if x3 < (x127005.length : Int) then (if 0 ≤ x3 then (if (rdOf ByteArray.empty x127005 x3).toList = ([] : List UInt8) then (some 3) else (if ((rdOf ByteArray.empty x127005 x3).size : Int) > 8 then (some 2) else (prolepsisref14_Check.l0 k (wrap64 (x3 + 1)) x127000 x127001 x127002 x127003 x127004 x127005))) else (none)) else (prolepsisref14_Check.l1 k x127004 1 x127000 x127001 x127002 x127003 x127004 x127005)
def prolepsisref14_Check.l1 : Nat → Int → Int → Int → Int → Int → Int → Int → List ByteArray → Option (Int)
  | 0, _, _, _, _, _, _, _, _ => none
  | k + 1, x4, x5, x127000, x127001, x127002, x127003, x127004, x127005 => if x5 < (x127005.length : Int) then (if (IntKind.u64.wrap (x4 + 1)) = 0 then (some 5) else (prolepsisref14_Check.l1 k (IntKind.u64.wrap (x4 + 1)) (wrap64 (x5 + 1)) x127000 x127001 x127002 x127003 x127004 x127005)) else (some 0)
end
def prolepsisref14_Check.f (k : Nat) (a0_0 : Int) (a0_1 : Int) (a0_2 : Int) (a0_3 : Int) (a0_4 : Int) (l0_5 : List ByteArray) : Option (Int) := (prolepsisref07_Size.f a0_2 a0_3).bind fun t127 => (if t127 = true then (if a0_4 = 0 then (some 5) else (if (l0_5.length : Int) > 64 then (some 6) else (prolepsisref14_Check.l0 k 0 a0_0 a0_1 a0_2 a0_3 a0_4 l0_5))) else (some 11))
set_option maxHeartbeats 8000000 in
set_option maxRecDepth 100000 in
theorem prolepsisref14_Check.calls (k : Nat) (a0_0 : Int) (a0_1 : Int) (a0_2 : Int) (a0_3 : Int) (a0_4 : Int) (A0_5 : Option Addr) (c0_5 : Nat) (l0_5 : List ByteArray) (r : Int) (w : World) (hr0_5 : Kd.C Kd.string w A0_5 l0_5.length l0_5) (hc0_5 : l0_5.length ≤ c0_5) (h : prolepsisref14_Check.f k a0_0 a0_1 a0_2 a0_3 a0_4 l0_5 = some r) :
    Calls Try.prog 41 #[.agg #[.int .u64 a0_0, .int .u64 a0_1, .int .i64 a0_2, .int .i64 a0_3, .int .u64 a0_4, .slice A0_5 l0_5.length c0_5]] w fun e w' => e = .returned (.int .i64 r) ∧ Below w.heap.size w w' := by
  have hu71 := Try.underlying71
  have HR0_5 := Aside0.mk hr0_5
  have HC0_5 := Aside0.mk hc0_5
  clear hr0_5 hc0_5
  have HB := a0 (Below.refl w.heap.size w)
  have H : ((prolepsisref07_Size.f a0_2 a0_3).bind fun t127 => (if t127 = true then (if a0_4 = 0 then (some 5) else (if (l0_5.length : Int) > 64 then (some 6) else (prolepsisref14_Check.l0 k 0 a0_0 a0_1 a0_2 a0_3 a0_4 l0_5))) else (some 11))) = some r := h
  clear h
  replace H := Option.bind_eq_some_iff.mp H
  obtain ⟨t127, A20, H⟩ := H
  try dsimp only at H
  have A2 := Aside0.mk A20
  clear A20
  by_cases c3 : t127 = true
  · subst c3
    have H1 : (if a0_4 = 0 then (some 5) else (if (l0_5.length : Int) > 64 then (some 6) else (prolepsisref14_Check.l0 k 0 a0_0 a0_1 a0_2 a0_3 a0_4 l0_5))) = some r := by rw [if_pos rfl] at H; exact H
    clear H
    have H := H1
    clear H1
    by_cases c4 : a0_4 = 0
    · rw [if_pos c4] at H
      have c4b0 : (a0_4 == 0) = true := beq_iff_eq.mpr c4
      have c4b1 : (a0_4 != 0) = false := bne_eq_false_iff_eq.mpr c4
      clear c4
      obtain rfl := Option.some.inj H
      go_enter Try.func41, Try.ntmps41
      go_wp2_with (first | ((with_reducible refine gate_dst (N := 1) rfl ?_); refine box_event ?hg (N := 1) ?hd (cs := #[.int .u64 a0_0, .int .u64 a0_1, .int .i64 a0_2, .int .i64 a0_3, .int .u64 a0_4, .slice A0_5 l0_5.length c0_5]) (t := 71) ?hr ?_; (case hd => rfl); (case hg => rfl); (case hr => first | (go_simp; done) | (go_simp; rfl)); intro gb126 hg w5 hbox hb; have n0_ := a0 (below_step (by repeat (first | (with_reducible first | exact HB.out | apply lA | apply lN | apply lD) | exact HB.out)) hb); have n1_ := a0 (hbox); have n2_ := a0 ((by rw [hg]; exact (below_size (by repeat (first | (with_reducible first | exact HB.out | apply lA | apply lN | apply lD) | exact HB.out))) : w.heap.size ≤ gb126)); have n3_ := a0 ((by rw [hg]; exact (below_size (by repeat (first | (with_reducible first | exact HB.out | apply lA | apply lN | apply lD) | exact HB.out))) : w.heap.size ≤ gb126)); clear HB; have HB := n0_; have BK126 := n1_; have GW126 := n2_; have GE126 := n3_; clear n0_ n1_ n2_ n3_; clear hb hbox hg; obtain ⟨hcz6_0, hcz6_1, hcz6_2, hcz6_3, hcz6_4, hcz6_5, hfz6_0, hfz6_1, hfz6_2, hfz6_3, hfz6_4, hfz6_5⟩ := cel6 BK126.out) | ((with_reducible refine gate_callee (f := 59) rfl ?_); refine goesL_ (some 10) rfl rfl Try.func59 (by kernel_rfl) rfl #[.int .i64 a0_2, .int .i64 a0_3] rfl (by (try simp only [List.map_toArray, List.map_cons, List.map_nil]); first | done | rfl | (simp only [List.length_drop, List.length_take]; rfl)) ?_; (with_reducible refine (prolepsisref07_Size.calls a0_2 a0_3 true _ A2.out).mono ?_); rintro e w' ⟨rfl, ⟨nd, rfl⟩⟩; refine ⟨_, rfl, ?_⟩))
      go_ret
      exact ⟨by first | rfl | (simp <;> rfl) | (simp [*] <;> rfl), by repeat (first | (with_reducible first | exact HB.out | apply lA | apply lN | apply lD | refine below_set ?_ GE126.out) | exact HB.out)⟩
    · rw [if_neg c4] at H
      have c4b0 : (a0_4 == 0) = false := beq_eq_false_iff_ne.mpr c4
      have c4b1 : (a0_4 != 0) = true := bne_iff_ne.mpr c4
      by_cases c7 : (l0_5.length : Int) > 64
      · rw [if_pos c7] at H
        have c7b0 : decide (64 < (l0_5.length : Int)) = true := decide_eq_true c7
        have c7b1 : decide (64 < l0_5.length) = true := decide_eq_true (by omega)
        clear c7
        obtain rfl := Option.some.inj H
        go_enter Try.func41, Try.ntmps41
        go_wp2_with (first | ((with_reducible refine gate_dst (N := 1) rfl ?_); refine box_event ?hg (N := 1) ?hd (cs := #[.int .u64 a0_0, .int .u64 a0_1, .int .i64 a0_2, .int .i64 a0_3, .int .u64 a0_4, .slice A0_5 l0_5.length c0_5]) (t := 71) ?hr ?_; (case hd => rfl); (case hg => rfl); (case hr => first | (go_simp; done) | (go_simp; rfl)); intro gb126 hg w8 hbox hb; have n0_ := a0 (below_step (by repeat (first | (with_reducible first | exact HB.out | apply lA | apply lN | apply lD) | exact HB.out)) hb); have n1_ := a0 (hbox); have n2_ := a0 ((by rw [hg]; exact (below_size (by repeat (first | (with_reducible first | exact HB.out | apply lA | apply lN | apply lD) | exact HB.out))) : w.heap.size ≤ gb126)); have n3_ := a0 ((by rw [hg]; exact (below_size (by repeat (first | (with_reducible first | exact HB.out | apply lA | apply lN | apply lD) | exact HB.out))) : w.heap.size ≤ gb126)); clear HB; have HB := n0_; have BK126 := n1_; have GW126 := n2_; have GE126 := n3_; clear n0_ n1_ n2_ n3_; clear hb hbox hg; obtain ⟨hcz9_0, hcz9_1, hcz9_2, hcz9_3, hcz9_4, hcz9_5, hfz9_0, hfz9_1, hfz9_2, hfz9_3, hfz9_4, hfz9_5⟩ := cel6 BK126.out) | ((with_reducible refine gate_callee (f := 59) rfl ?_); refine goesL_ (some 10) rfl rfl Try.func59 (by kernel_rfl) rfl #[.int .i64 a0_2, .int .i64 a0_3] rfl (by (try simp only [List.map_toArray, List.map_cons, List.map_nil]); first | done | rfl | (simp only [List.length_drop, List.length_take]; rfl)) ?_; (with_reducible refine (prolepsisref07_Size.calls a0_2 a0_3 true _ A2.out).mono ?_); rintro e w' ⟨rfl, ⟨nd, rfl⟩⟩; refine ⟨_, rfl, ?_⟩))
        go_ret
        exact ⟨by first | rfl | (simp <;> rfl) | (simp [*] <;> rfl), by repeat (first | (with_reducible first | exact HB.out | apply lA | apply lN | apply lD | refine below_set ?_ GE126.out) | exact HB.out)⟩
      · rw [if_neg c7] at H
        have c7b0 : decide (64 < (l0_5.length : Int)) = false := decide_eq_false c7
        have c7b1 : decide (64 < l0_5.length) = false := decide_eq_false (by omega)
        clear c7
        have H' := Aside0.mk H
        clear H
        go_enter Try.func41, Try.ntmps41
        go_wp2_with (first | ((with_reducible refine gate_dst (N := 1) rfl ?_); refine box_event ?hg (N := 1) ?hd (cs := #[.int .u64 a0_0, .int .u64 a0_1, .int .i64 a0_2, .int .i64 a0_3, .int .u64 a0_4, .slice A0_5 l0_5.length c0_5]) (t := 71) ?hr ?_; (case hd => rfl); (case hg => rfl); (case hr => first | (go_simp; done) | (go_simp; rfl)); intro gb126 hg w10 hbox hb; have n0_ := a0 (below_step (by repeat (first | (with_reducible first | exact HB.out | apply lA | apply lN | apply lD) | exact HB.out)) hb); have n1_ := a0 (hbox); have n2_ := a0 ((by rw [hg]; exact (below_size (by repeat (first | (with_reducible first | exact HB.out | apply lA | apply lN | apply lD) | exact HB.out))) : w.heap.size ≤ gb126)); have n3_ := a0 ((by rw [hg]; exact (below_size (by repeat (first | (with_reducible first | exact HB.out | apply lA | apply lN | apply lD) | exact HB.out))) : w.heap.size ≤ gb126)); clear HB; have HB := n0_; have BK126 := n1_; have GW126 := n2_; have GE126 := n3_; clear n0_ n1_ n2_ n3_; clear hb hbox hg; obtain ⟨hcz11_0, hcz11_1, hcz11_2, hcz11_3, hcz11_4, hcz11_5, hfz11_0, hfz11_1, hfz11_2, hfz11_3, hfz11_4, hfz11_5⟩ := cel6 BK126.out) | ((with_reducible refine gate_callee (f := 59) rfl ?_); refine goesL_ (some 10) rfl rfl Try.func59 (by kernel_rfl) rfl #[.int .i64 a0_2, .int .i64 a0_3] rfl (by (try simp only [List.map_toArray, List.map_cons, List.map_nil]); first | done | rfl | (simp only [List.length_drop, List.length_take]; rfl)) ?_; (with_reducible refine (prolepsisref07_Size.calls a0_2 a0_3 true _ A2.out).mono ?_); rintro e w' ⟨rfl, ⟨nd, rfl⟩⟩; refine ⟨_, rfl, ?_⟩))
        go_loopg [3] k (fun kq v3 w' => ∃ (x3_1 : Int), v3 = .int .i64 x3_1 ∧ Aside0 (prolepsisref14_Check.l0 kq x3_1 a0_0 a0_1 a0_2 a0_3 a0_4 l0_5 = some r) ∧ Aside0 (kq ≤ k) ∧ Aside0 (w'.heap[gb126]? = some (.cells #[.int .u64 a0_0, .int .u64 a0_1, .int .i64 a0_2, .int .i64 a0_3, .int .u64 a0_4, (.slice A0_5 l0_5.length c0_5)] 71 (0, 0))) ∧ Aside0 (Below w.heap.size w w'))
        case atStart => exact ⟨(0), (by first | rfl | (simp; done) | (simp [*]; done)), H', ⟨Nat.le_refl _⟩, ⟨by (with_reducible repeat (first | apply bN | apply bD | apply bA)); exact BK126.out⟩, ⟨by repeat (first | (with_reducible first | exact HB.out | apply lA | apply lN | apply lD | refine below_set ?_ GE126.out) | exact HB.out)⟩⟩
        case round =>
          clear H'
          try clear p2
          try clear c3
          try clear c4
          try clear c4b0
          try clear c4b1
          try clear c5
          try clear c7
          try clear c7b0
          try clear c7b1
          try clear hcz11_0
          try clear hcz11_1
          try clear hcz11_2
          try clear hcz11_3
          try clear hcz11_4
          try clear hcz11_5
          try clear hcz6_0
          try clear hcz6_1
          try clear hcz6_2
          try clear hcz6_3
          try clear hcz6_4
          try clear hcz6_5
          try clear hcz9_0
          try clear hcz9_1
          try clear hcz9_2
          try clear hcz9_3
          try clear hcz9_4
          try clear hcz9_5
          try clear hfz11_0
          try clear hfz11_1
          try clear hfz11_2
          try clear hfz11_3
          try clear hfz11_4
          try clear hfz11_5
          try clear hfz6_0
          try clear hfz6_1
          try clear hfz6_2
          try clear hfz6_3
          try clear hfz6_4
          try clear hfz6_5
          try clear hfz9_0
          try clear hfz9_1
          try clear hfz9_2
          try clear hfz9_3
          try clear hfz9_4
          try clear hfz9_5
          obtain ⟨x3_1, rfl, HA, HK1, BK126, HB⟩ := hrel
          cases gk with
          | zero => exact absurd HA.out (by simp [prolepsisref14_Check.l0])
          | succ k1 =>
            have H := HA.out
            clear HA
            simp only [prolepsisref14_Check.l0] at H
            by_cases c12 : x3_1 < (l0_5.length : Int)
            · rw [if_pos c12] at H
              have c12b0 : decide (x3_1 < (l0_5.length : Int)) = true := decide_eq_true c12
              clear c12
              by_cases c13 : 0 ≤ x3_1
              · rw [if_pos c13] at H
                have c13b0 : decide (0 ≤ x3_1) = true := decide_eq_true c13
                clear c13
                by_cases c14 : (rdOf ByteArray.empty l0_5 x3_1).toList = ([] : List UInt8)
                · rw [if_pos c14] at H
                  have c14b0 : ((rdOf ByteArray.empty l0_5 x3_1).toList == ([] : List UInt8)) = true := beq_iff_eq.mpr c14
                  have c14b1 : ((rdOf ByteArray.empty l0_5 x3_1).toList != ([] : List UInt8)) = false := bne_eq_false_iff_eq.mpr c14
                  clear c14
                  obtain rfl := Option.some.inj H
                  obtain ⟨hcz15_0, hcz15_1, hcz15_2, hcz15_3, hcz15_4, hcz15_5, hfz15_0, hfz15_1, hfz15_2, hfz15_3, hfz15_4, hfz15_5⟩ := cel6 BK126.out
                  have p128 : 0 ≤ (x3_1 : Int) := of_decide_eq_true (by first | (with_reducible assumption) | assumption)
                  have q128 : x3_1 < (l0_5.length : Int) := of_decide_eq_true (by first | (with_reducible assumption) | assumption)
                  obtain ⟨ad128, e128, hx128_0⟩ := Kd.at_string HR0_5.out x3_1 p128 q128
                  cases e128
                  replace hx128_0 := (HB.out.cell (World.block_lt_of_cell? w _ hx128_0)).trans hx128_0
                  replace p128 := eq_true p128
                  replace q128 := eq_true q128
                  go_wp2
                  go_ret
                  exact ⟨by first | rfl | (simp <;> rfl) | (simp [*] <;> rfl), by repeat (first | (with_reducible first | exact HB.out | apply lA | apply lN | apply lD | refine below_set ?_ GE126.out) | exact HB.out)⟩
                · rw [if_neg c14] at H
                  have c14b0 : ((rdOf ByteArray.empty l0_5 x3_1).toList == ([] : List UInt8)) = false := beq_eq_false_iff_ne.mpr c14
                  have c14b1 : ((rdOf ByteArray.empty l0_5 x3_1).toList != ([] : List UInt8)) = true := bne_iff_ne.mpr c14
                  by_cases c16 : ((rdOf ByteArray.empty l0_5 x3_1).size : Int) > 8
                  · rw [if_pos c16] at H
                    have c16b0 : decide (8 < ((rdOf ByteArray.empty l0_5 x3_1).size : Int)) = true := decide_eq_true c16
                    have c16b1 : decide (8 < (rdOf ByteArray.empty l0_5 x3_1).size) = true := decide_eq_true (by omega)
                    clear c16
                    obtain rfl := Option.some.inj H
                    obtain ⟨hcz17_0, hcz17_1, hcz17_2, hcz17_3, hcz17_4, hcz17_5, hfz17_0, hfz17_1, hfz17_2, hfz17_3, hfz17_4, hfz17_5⟩ := cel6 BK126.out
                    have p128 : 0 ≤ (x3_1 : Int) := of_decide_eq_true (by first | (with_reducible assumption) | assumption)
                    have q128 : x3_1 < (l0_5.length : Int) := of_decide_eq_true (by first | (with_reducible assumption) | assumption)
                    obtain ⟨ad128, e128, hx128_0⟩ := Kd.at_string HR0_5.out x3_1 p128 q128
                    cases e128
                    replace hx128_0 := (HB.out.cell (World.block_lt_of_cell? w _ hx128_0)).trans hx128_0
                    replace p128 := eq_true p128
                    replace q128 := eq_true q128
                    have p129 : 0 ≤ (x3_1 : Int) := of_decide_eq_true (by first | (with_reducible assumption) | assumption)
                    have q129 : x3_1 < (l0_5.length : Int) := of_decide_eq_true (by first | (with_reducible assumption) | assumption)
                    obtain ⟨ad129, e129, hx129_0⟩ := Kd.at_string HR0_5.out x3_1 p129 q129
                    obtain rfl : ad128 = ad129 := (by injection e129)
                    replace hx129_0 := (HB.out.cell (World.block_lt_of_cell? w _ hx129_0)).trans hx129_0
                    replace p129 := eq_true p129
                    replace q129 := eq_true q129
                    go_wp2
                    go_ret
                    exact ⟨by first | rfl | (simp <;> rfl) | (simp [*] <;> rfl), by repeat (first | (with_reducible first | exact HB.out | apply lA | apply lN | apply lD | refine below_set ?_ GE126.out) | exact HB.out)⟩
                  · rw [if_neg c16] at H
                    have c16b0 : decide (8 < ((rdOf ByteArray.empty l0_5 x3_1).size : Int)) = false := decide_eq_false c16
                    have c16b1 : decide (8 < (rdOf ByteArray.empty l0_5 x3_1).size) = false := decide_eq_false (by omega)
                    clear c16
                    have H' := Aside0.mk H
                    clear H
                    obtain ⟨hcz18_0, hcz18_1, hcz18_2, hcz18_3, hcz18_4, hcz18_5, hfz18_0, hfz18_1, hfz18_2, hfz18_3, hfz18_4, hfz18_5⟩ := cel6 BK126.out
                    have p128 : 0 ≤ (x3_1 : Int) := of_decide_eq_true (by first | (with_reducible assumption) | assumption)
                    have q128 : x3_1 < (l0_5.length : Int) := of_decide_eq_true (by first | (with_reducible assumption) | assumption)
                    obtain ⟨ad128, e128, hx128_0⟩ := Kd.at_string HR0_5.out x3_1 p128 q128
                    cases e128
                    replace hx128_0 := (HB.out.cell (World.block_lt_of_cell? w _ hx128_0)).trans hx128_0
                    replace p128 := eq_true p128
                    replace q128 := eq_true q128
                    have p129 : 0 ≤ (x3_1 : Int) := of_decide_eq_true (by first | (with_reducible assumption) | assumption)
                    have q129 : x3_1 < (l0_5.length : Int) := of_decide_eq_true (by first | (with_reducible assumption) | assumption)
                    obtain ⟨ad129, e129, hx129_0⟩ := Kd.at_string HR0_5.out x3_1 p129 q129
                    obtain rfl : ad128 = ad129 := (by injection e129)
                    replace hx129_0 := (HB.out.cell (World.block_lt_of_cell? w _ hx129_0)).trans hx129_0
                    replace p129 := eq_true p129
                    replace q129 := eq_true q129
                    go_wp2
                    go_roundg k1
                    case measure => have := HK1.out; omega
                    case rel => exact ⟨(wrap64 (x3_1 + 1)), (by first | rfl | (simp; done) | (simp [*]; done)), H', ⟨by have := HK1.out; omega⟩, ⟨by (with_reducible repeat (first | apply bN | apply bD | apply bA)); exact BK126.out⟩, ⟨by repeat (first | (with_reducible first | exact HB.out | apply lA | apply lN | apply lD | refine below_set ?_ GE126.out) | exact HB.out)⟩⟩
              · rw [if_neg c13] at H
                exact absurd H (by simp)
            · rw [if_neg c12] at H
              have c12b0 : decide (x3_1 < (l0_5.length : Int)) = false := decide_eq_false c12
              clear c12
              have H' := Aside0.mk H
              clear H
              obtain ⟨hcz19_0, hcz19_1, hcz19_2, hcz19_3, hcz19_4, hcz19_5, hfz19_0, hfz19_1, hfz19_2, hfz19_3, hfz19_4, hfz19_5⟩ := cel6 BK126.out
              go_wp2
              go_loopg [4, 5] k1 (fun kq v4 v5 w' => ∃ (x4_2 : Int) (x5_2 : Int), v4 = .int .u64 x4_2 ∧ v5 = .int .i64 x5_2 ∧ Aside0 (prolepsisref14_Check.l1 kq x4_2 x5_2 a0_0 a0_1 a0_2 a0_3 a0_4 l0_5 = some r) ∧ Aside0 (kq ≤ k1) ∧ Aside0 (w'.heap[gb126]? = some (.cells #[.int .u64 a0_0, .int .u64 a0_1, .int .i64 a0_2, .int .i64 a0_3, .int .u64 a0_4, (.slice A0_5 l0_5.length c0_5)] 71 (0, 0))) ∧ Aside0 (Below w.heap.size w w'))
              case atStart => exact ⟨(a0_4), (1), (by first | rfl | (simp; done) | (simp [*]; done)), (by first | rfl | (simp; done) | (simp [*]; done)), H', ⟨Nat.le_refl _⟩, ⟨by (with_reducible repeat (first | apply bN | apply bD | apply bA)); exact BK126.out⟩, ⟨by repeat (first | (with_reducible first | exact HB.out | apply lA | apply lN | apply lD | refine below_set ?_ GE126.out) | exact HB.out)⟩⟩
              case round =>
                clear H'
                try clear c1
                try clear p1
                try clear q1
                try clear hx1
                try clear p2
                try clear c3
                try clear c4
                try clear c4b0
                try clear c4b1
                try clear c5
                try clear p6
                try clear c7
                try clear c7b0
                try clear c7b1
                try clear c12
                try clear c12b0
                try clear p12
                try clear q12
                try clear hx12
                try clear c13
                try clear c13b0
                try clear c14
                try clear c14b0
                try clear c14b1
                try clear c16
                try clear c16b0
                try clear c16b1
                try clear hcz11_0
                try clear hcz11_1
                try clear hcz11_2
                try clear hcz11_3
                try clear hcz11_4
                try clear hcz11_5
                try clear hcz15_0
                try clear hcz15_1
                try clear hcz15_2
                try clear hcz15_3
                try clear hcz15_4
                try clear hcz15_5
                try clear hcz17_0
                try clear hcz17_1
                try clear hcz17_2
                try clear hcz17_3
                try clear hcz17_4
                try clear hcz17_5
                try clear hcz18_0
                try clear hcz18_1
                try clear hcz18_2
                try clear hcz18_3
                try clear hcz18_4
                try clear hcz18_5
                try clear hcz19_0
                try clear hcz19_1
                try clear hcz19_2
                try clear hcz19_3
                try clear hcz19_4
                try clear hcz19_5
                try clear hcz6_0
                try clear hcz6_1
                try clear hcz6_2
                try clear hcz6_3
                try clear hcz6_4
                try clear hcz6_5
                try clear hcz9_0
                try clear hcz9_1
                try clear hcz9_2
                try clear hcz9_3
                try clear hcz9_4
                try clear hcz9_5
                try clear hfz11_0
                try clear hfz11_1
                try clear hfz11_2
                try clear hfz11_3
                try clear hfz11_4
                try clear hfz11_5
                try clear hfz15_0
                try clear hfz15_1
                try clear hfz15_2
                try clear hfz15_3
                try clear hfz15_4
                try clear hfz15_5
                try clear hfz17_0
                try clear hfz17_1
                try clear hfz17_2
                try clear hfz17_3
                try clear hfz17_4
                try clear hfz17_5
                try clear hfz18_0
                try clear hfz18_1
                try clear hfz18_2
                try clear hfz18_3
                try clear hfz18_4
                try clear hfz18_5
                try clear hfz19_0
                try clear hfz19_1
                try clear hfz19_2
                try clear hfz19_3
                try clear hfz19_4
                try clear hfz19_5
                try clear hfz6_0
                try clear hfz6_1
                try clear hfz6_2
                try clear hfz6_3
                try clear hfz6_4
                try clear hfz6_5
                try clear hfz9_0
                try clear hfz9_1
                try clear hfz9_2
                try clear hfz9_3
                try clear hfz9_4
                try clear hfz9_5
                try clear hx128_0
                try clear hx129_0
                try clear p128
                try clear p129
                try clear p2
                try clear q128
                try clear q129
                obtain ⟨x4_2, x5_2, rfl, rfl, HA, HK2, BK126, HB⟩ := hrel
                cases gk with
                | zero => exact absurd HA.out (by simp [prolepsisref14_Check.l1])
                | succ k2 =>
                  have H := HA.out
                  clear HA
                  simp only [prolepsisref14_Check.l1] at H
                  by_cases c20 : x5_2 < (l0_5.length : Int)
                  · rw [if_pos c20] at H
                    have c20b0 : decide (x5_2 < (l0_5.length : Int)) = true := decide_eq_true c20
                    clear c20
                    by_cases c21 : (IntKind.u64.wrap (x4_2 + 1)) = 0
                    · rw [if_pos c21] at H
                      have c21b0 : ((IntKind.u64.wrap (x4_2 + 1)) == 0) = true := beq_iff_eq.mpr c21
                      have c21b1 : ((IntKind.u64.wrap (x4_2 + 1)) != 0) = false := bne_eq_false_iff_eq.mpr c21
                      clear c21
                      obtain rfl := Option.some.inj H
                      obtain ⟨hcz22_0, hcz22_1, hcz22_2, hcz22_3, hcz22_4, hcz22_5, hfz22_0, hfz22_1, hfz22_2, hfz22_3, hfz22_4, hfz22_5⟩ := cel6 BK126.out
                      go_wp2
                      go_ret
                      exact ⟨by first | rfl | (simp <;> rfl) | (simp [*] <;> rfl), by repeat (first | (with_reducible first | exact HB.out | apply lA | apply lN | apply lD | refine below_set ?_ GE126.out) | exact HB.out)⟩
                    · rw [if_neg c21] at H
                      have c21b0 : ((IntKind.u64.wrap (x4_2 + 1)) == 0) = false := beq_eq_false_iff_ne.mpr c21
                      have c21b1 : ((IntKind.u64.wrap (x4_2 + 1)) != 0) = true := bne_iff_ne.mpr c21
                      have H' := Aside0.mk H
                      clear H
                      obtain ⟨hcz23_0, hcz23_1, hcz23_2, hcz23_3, hcz23_4, hcz23_5, hfz23_0, hfz23_1, hfz23_2, hfz23_3, hfz23_4, hfz23_5⟩ := cel6 BK126.out
                      go_wp2
                      go_roundg k2
                      case measure => have := HK1.out; have := HK2.out; omega
                      case rel => exact ⟨(IntKind.u64.wrap (x4_2 + 1)), (wrap64 (x5_2 + 1)), (by first | rfl | (simp; done) | (simp [*]; done)), (by first | rfl | (simp; done) | (simp [*]; done)), H', ⟨by have := HK1.out; have := HK2.out; omega⟩, ⟨by (with_reducible repeat (first | apply bN | apply bD | apply bA)); exact BK126.out⟩, ⟨by repeat (first | (with_reducible first | exact HB.out | apply lA | apply lN | apply lD | refine below_set ?_ GE126.out) | exact HB.out)⟩⟩
                  · rw [if_neg c20] at H
                    have c20b0 : decide (x5_2 < (l0_5.length : Int)) = false := decide_eq_false c20
                    clear c20
                    obtain rfl := Option.some.inj H
                    obtain ⟨hcz24_0, hcz24_1, hcz24_2, hcz24_3, hcz24_4, hcz24_5, hfz24_0, hfz24_1, hfz24_2, hfz24_3, hfz24_4, hfz24_5⟩ := cel6 BK126.out
                    go_wp2
                    go_ret
                    exact ⟨by first | rfl | (simp <;> rfl) | (simp [*] <;> rfl), by repeat (first | (with_reducible first | exact HB.out | apply lA | apply lN | apply lD | refine below_set ?_ GE126.out) | exact HB.out)⟩
  · replace c3 := Bool.eq_false_iff.mpr c3
    subst c3
    have H1 : (some 11) = some r := by rw [if_neg (show ¬ (false = true) by decide)] at H; exact H
    clear H
    have H := H1
    clear H1
    obtain rfl := Option.some.inj H
    go_enter Try.func41, Try.ntmps41
    go_wp2_with (first | ((with_reducible refine gate_dst (N := 1) rfl ?_); refine box_event ?hg (N := 1) ?hd (cs := #[.int .u64 a0_0, .int .u64 a0_1, .int .i64 a0_2, .int .i64 a0_3, .int .u64 a0_4, .slice A0_5 l0_5.length c0_5]) (t := 71) ?hr ?_; (case hd => rfl); (case hg => rfl); (case hr => first | (go_simp; done) | (go_simp; rfl)); intro gb126 hg w25 hbox hb; have n0_ := a0 (below_step (by repeat (first | (with_reducible first | exact HB.out | apply lA | apply lN | apply lD) | exact HB.out)) hb); have n1_ := a0 (hbox); have n2_ := a0 ((by rw [hg]; exact (below_size (by repeat (first | (with_reducible first | exact HB.out | apply lA | apply lN | apply lD) | exact HB.out))) : w.heap.size ≤ gb126)); have n3_ := a0 ((by rw [hg]; exact (below_size (by repeat (first | (with_reducible first | exact HB.out | apply lA | apply lN | apply lD) | exact HB.out))) : w.heap.size ≤ gb126)); clear HB; have HB := n0_; have BK126 := n1_; have GW126 := n2_; have GE126 := n3_; clear n0_ n1_ n2_ n3_; clear hb hbox hg; obtain ⟨hcz26_0, hcz26_1, hcz26_2, hcz26_3, hcz26_4, hcz26_5, hfz26_0, hfz26_1, hfz26_2, hfz26_3, hfz26_4, hfz26_5⟩ := cel6 BK126.out) | ((with_reducible refine gate_callee (f := 59) rfl ?_); refine goesL_ (some 10) rfl rfl Try.func59 (by kernel_rfl) rfl #[.int .i64 a0_2, .int .i64 a0_3] rfl (by (try simp only [List.map_toArray, List.map_cons, List.map_nil]); first | done | rfl | (simp only [List.length_drop, List.length_take]; rfl)) ?_; (with_reducible refine (prolepsisref07_Size.calls a0_2 a0_3 false _ A2.out).mono ?_); rintro e w' ⟨rfl, ⟨nd, rfl⟩⟩; refine ⟨_, rfl, ?_⟩))
    go_ret
    exact ⟨by first | rfl | (simp <;> rfl) | (simp [*] <;> rfl), by repeat (first | (with_reducible first | exact HB.out | apply lA | apply lN | apply lD | refine below_set ?_ GE126.out) | exact HB.out)⟩

def prolepsislaw14_Of.l0 : Nat → Int → Int → Int → Int → Int → Int → List (List Int) → Int → Int → Int → Int → Int → List ByteArray → Option (Int × Int × Int × Int × Int × List ByteArray)
  | 0, _, _, _, _, _, _, _, _, _, _, _, _, _ => none
  | k + 1, x4, x131000, x131001, x131002, x131003, x131004, x131005, x133000, x133001, x133002, x133003, x133004, x133005 => if x4 < (x131005.length : Int) then (if 0 ≤ x4 then (if x133005.length < 8796093022208 then (prolepsislaw14_Of.l0 k (wrap64 (x4 + 1)) x131000 x131001 x131002 x131003 x131004 x131005 x133000 x133001 x133002 x133003 x133004 (x133005 ++ [strOfNums (rd_L1 x131005 x4)])) else (none)) else (none)) else (some (x133000, x133001, x133002, x133003, x133004, x133005))
def prolepsislaw14_Of.f (k : Nat) (a0_0 : Int) (a0_1 : Int) (a0_2 : Int) (a0_3 : Int) (a0_4 : Int) (l0_5 : List (List Int)) : Option (Int × Int × Int × Int × Int × List ByteArray) := prolepsislaw14_Of.l0 k 0 a0_0 a0_1 a0_2 a0_3 a0_4 l0_5 a0_0 a0_1 a0_2 a0_3 a0_4 ([] : List ByteArray)
def prolepsislaw14_Of.T5 : Bool × List (List Nat × List Nat) := (true, [([], []), ([0], [0]), ([], []), ([2], [2]), ([], []), ([3, 4], [3, 4]), ([5], [5]), ([6], [6]), ([7], [7]), ([1, 8], [1, 8]), ([0, 1, 2, 3, 4, 5, 6, 7, 8, 9], []), ([10, 9, 9, 0, 1, 2, 3, 4, 5, 6, 7, 8, 9], [9, 10])])
def prolepsislaw14_Of.B5 : List Nat := [0, 1, 0, 4, 0, 28, 60, 124, 252, 511, 1023, 2047]
theorem prolepsislaw14_Of.tab5 : rtab .any (opsOf Try.f42 5) = prolepsislaw14_Of.T5 := by kernel_rfl
theorem prolepsislaw14_Of.bits5 : waitsOk prolepsislaw14_Of.T5.2 prolepsislaw14_Of.B5 = true := by kernel_rfl
set_option maxHeartbeats 8000000 in
set_option maxRecDepth 100000 in
theorem prolepsislaw14_Of.calls (k : Nat) (a0_0 : Int) (a0_1 : Int) (a0_2 : Int) (a0_3 : Int) (a0_4 : Int) (A0_5 : Option Addr) (c0_5 : Nat) (l0_5 : List (List Int)) (r1 : Int) (r2 : Int) (r3 : Int) (r4 : Int) (r5 : Int) (r6 : List ByteArray) (w : World) (hr0_5 : Kd.C (Kd.slice 5 (Kd.int .u8)) w A0_5 l0_5.length l0_5) (hc0_5 : l0_5.length ≤ c0_5) (h : prolepsislaw14_Of.f k a0_0 a0_1 a0_2 a0_3 a0_4 l0_5 = some (r1, r2, r3, r4, r5, r6)) :
    Calls Try.prog 42 #[.agg #[.int .u64 a0_0, .int .u64 a0_1, .int .i64 a0_2, .int .i64 a0_3, .int .u64 a0_4, .slice A0_5 l0_5.length c0_5]] w fun e w' => ∃ v5_ : Value, e = .returned (.agg #[.int .u64 r1, .int .u64 r2, .int .i64 r3, .int .i64 r4, .int .u64 r5, v5_]) ∧ Kd.R Kd.string 9 w' w.heap.size (fun _ => True) v5_ r6 ∧ Below w.heap.size w w' := by
  have hu66 := Try.underlying66
  have hu71 := Try.underlying71
  have HR0_5 := Aside0.mk hr0_5
  have HC0_5 := Aside0.mk hc0_5
  clear hr0_5 hc0_5
  have HB := a0 (Below.refl w.heap.size w)
  have H : (prolepsislaw14_Of.l0 k 0 a0_0 a0_1 a0_2 a0_3 a0_4 l0_5 a0_0 a0_1 a0_2 a0_3 a0_4 ([] : List ByteArray)) = some (r1, r2, r3, r4, r5, r6) := h
  clear h
  have H' := Aside0.mk H
  clear H
  go_enter Try.func42, Try.ntmps42
  go_wp2_with (first | ((with_reducible refine gate_dst (N := 1) rfl ?_); refine box_event ?hg (N := 1) ?hd (cs := #[.int .u64 a0_0, .int .u64 a0_1, .int .i64 a0_2, .int .i64 a0_3, .int .u64 a0_4, .slice A0_5 l0_5.length c0_5]) (t := 66) ?hr ?_; (case hd => rfl); (case hg => rfl); (case hr => first | (go_simp; done) | (go_simp; rfl)); intro gb130 hg w2 hbox hb; have n0_ := a0 (below_step (by repeat (first | (with_reducible first | exact HB.out | apply lA | apply lN | apply lD) | exact HB.out)) hb); have n1_ := a0 (hbox); have n2_ := a0 ((by rw [hg]; exact (below_size (by repeat (first | (with_reducible first | exact HB.out | apply lA | apply lN | apply lD) | exact HB.out))) : w.heap.size ≤ gb130)); have n3_ := a0 ((by rw [hg]; exact (below_size (by repeat (first | (with_reducible first | exact HB.out | apply lA | apply lN | apply lD) | exact HB.out))) : w.heap.size ≤ gb130)); clear HB; have HB := n0_; have BK130 := n1_; have GW130 := n2_; have GE130 := n3_; clear n0_ n1_ n2_ n3_; clear hb hbox hg) | ((with_reducible refine gate_dst (N := 2) rfl ?_); refine box_event ?hg (N := 2) ?hd (cs := #[.int .u64 0, .int .u64 0, .int .i64 0, .int .i64 0, .int .u64 0, .slice none 0 0]) (t := 71) ?hr ?_; (case hd => rfl); (case hg => rfl); (case hr => first | (go_simp; done) | (go_simp; rfl)); intro gb131 hg w3 hbox hb; have n0_ := a0 (blk_below (g := gb130) (o := .cells #[.int .u64 a0_0, .int .u64 a0_1, .int .i64 a0_2, .int .i64 a0_3, .int .u64 a0_4, .slice A0_5 l0_5.length c0_5] 66 (0, 0)) (by (with_reducible repeat (first | apply bN | apply bD | apply bA)); exact BK130.out) hb); have n1_ := a0 (below_step (by repeat (first | (with_reducible first | exact HB.out | apply lA | apply lN | apply lD | refine below_set ?_ GE130.out) | exact HB.out)) hb); have n2_ := a0 (hbox); have n3_ := a0 ((by rw [hg]; exact (below_size (by repeat (first | (with_reducible first | exact HB.out | apply lA | apply lN | apply lD | refine below_set ?_ GE130.out) | exact HB.out))) : w.heap.size ≤ gb131)); have n4_ := a0 ((by rw [hg]; exact (below_size (by repeat (first | (with_reducible first | exact HB.out | apply lA | apply lN | apply lD | refine below_set ?_ GE130.out) | exact HB.out))) : w.heap.size ≤ gb131)); have n5_ := a0 ((by rw [hg]; exact Nat.ne_of_lt (blk_lt (g := gb130) (o := .cells #[.int .u64 a0_0, .int .u64 a0_1, .int .i64 a0_2, .int .i64 a0_3, .int .u64 a0_4, .slice A0_5 l0_5.length c0_5] 66 (0, 0)) (by (with_reducible repeat (first | apply bN | apply bD | apply bA)); exact BK130.out)) : gb130 ≠ gb131)); have n6_ := a0 ((by rw [hg]; exact Nat.ne_of_gt (blk_lt (g := gb130) (o := .cells #[.int .u64 a0_0, .int .u64 a0_1, .int .i64 a0_2, .int .i64 a0_3, .int .u64 a0_4, .slice A0_5 l0_5.length c0_5] 66 (0, 0)) (by (with_reducible repeat (first | apply bN | apply bD | apply bA)); exact BK130.out)) : gb131 ≠ gb130)); clear BK130; clear HB; have BK130 := n0_; have HB := n1_; have BK131 := n2_; have GW131 := n3_; have GE131 := n4_; have NB130_131 := n5_; have NB131_130 := n6_; clear n0_ n1_ n2_ n3_ n4_ n5_ n6_; clear hb hbox hg; have hnb4 := NB130_131.out; have hnc4 := NB131_130.out; obtain ⟨hcz5_0, hcz5_1, hcz5_2, hcz5_3, hcz5_4, hcz5_5, hfz5_0, hfz5_1, hfz5_2, hfz5_3, hfz5_4, hfz5_5⟩ := cel6 BK130.out) | ((with_reducible refine gate_dst (N := 3) rfl ?_); refine box_event ?hg (N := 3) ?hd (cs := #[.int .u64 0, .int .u64 0, .int .i64 0, .int .i64 0, .int .u64 0, .slice none 0 0]) (t := 71) ?hr ?_; (case hd => rfl); (case hg => rfl); (case hr => first | (go_simp; done) | (go_simp; rfl)); intro gb132 hg w6 hbox hb; have n0_ := a0 (blk_below (g := gb130) (o := .cells #[.int .u64 a0_0, .int .u64 a0_1, .int .i64 a0_2, .int .i64 a0_3, .int .u64 a0_4, .slice A0_5 l0_5.length c0_5] 66 (0, 0)) (by (with_reducible repeat (first | apply bN | apply bD | apply bA)); exact BK130.out) hb); have n1_ := a0 (blk_below (g := gb131) (o := .cells #[.int .u64 0, .int .u64 0, .int .i64 0, .int .i64 0, .int .u64 0, .slice none 0 0] 71 (0, 0)) (by (with_reducible repeat (first | apply bN | apply bD | apply bA)); exact BK131.out) hb); have n2_ := a0 (below_step (by repeat (first | (with_reducible first | exact HB.out | apply lA | apply lN | apply lD | refine below_set ?_ GE130.out | refine below_set ?_ GE131.out) | exact HB.out)) hb); have n3_ := a0 (hbox); have n4_ := a0 ((by rw [hg]; exact (below_size (by repeat (first | (with_reducible first | exact HB.out | apply lA | apply lN | apply lD | refine below_set ?_ GE130.out | refine below_set ?_ GE131.out) | exact HB.out))) : w.heap.size ≤ gb132)); have n5_ := a0 ((by rw [hg]; exact (below_size (by repeat (first | (with_reducible first | exact HB.out | apply lA | apply lN | apply lD | refine below_set ?_ GE130.out | refine below_set ?_ GE131.out) | exact HB.out))) : w.heap.size ≤ gb132)); have n6_ := a0 ((by rw [hg]; exact Nat.ne_of_lt (blk_lt (g := gb130) (o := .cells #[.int .u64 a0_0, .int .u64 a0_1, .int .i64 a0_2, .int .i64 a0_3, .int .u64 a0_4, .slice A0_5 l0_5.length c0_5] 66 (0, 0)) (by (with_reducible repeat (first | apply bN | apply bD | apply bA)); exact BK130.out)) : gb130 ≠ gb132)); have n7_ := a0 ((by rw [hg]; exact Nat.ne_of_gt (blk_lt (g := gb130) (o := .cells #[.int .u64 a0_0, .int .u64 a0_1, .int .i64 a0_2, .int .i64 a0_3, .int .u64 a0_4, .slice A0_5 l0_5.length c0_5] 66 (0, 0)) (by (with_reducible repeat (first | apply bN | apply bD | apply bA)); exact BK130.out)) : gb132 ≠ gb130)); have n8_ := a0 ((by rw [hg]; exact Nat.ne_of_lt (blk_lt (g := gb131) (o := .cells #[.int .u64 0, .int .u64 0, .int .i64 0, .int .i64 0, .int .u64 0, .slice none 0 0] 71 (0, 0)) (by (with_reducible repeat (first | apply bN | apply bD | apply bA)); exact BK131.out)) : gb131 ≠ gb132)); have n9_ := a0 ((by rw [hg]; exact Nat.ne_of_gt (blk_lt (g := gb131) (o := .cells #[.int .u64 0, .int .u64 0, .int .i64 0, .int .i64 0, .int .u64 0, .slice none 0 0] 71 (0, 0)) (by (with_reducible repeat (first | apply bN | apply bD | apply bA)); exact BK131.out)) : gb132 ≠ gb131)); clear BK130; clear BK131; clear HB; have BK130 := n0_; have BK131 := n1_; have HB := n2_; have BK132 := n3_; have GW132 := n4_; have GE132 := n5_; have NB130_132 := n6_; have NB132_130 := n7_; have NB131_132 := n8_; have NB132_131 := n9_; clear n0_ n1_ n2_ n3_ n4_ n5_ n6_ n7_ n8_ n9_; clear hb hbox hg; have hnb7 := NB132_130.out; have hnc7 := NB130_132.out; have hnb8 := NB132_131.out; have hnc8 := NB131_132.out; obtain ⟨hcz9_0, hcz9_1, hcz9_2, hcz9_3, hcz9_4, hcz9_5, hfz9_0, hfz9_1, hfz9_2, hfz9_3, hfz9_4, hfz9_5⟩ := cel6 BK132.out))
  go_loopg [4] k (fun kq v4 w' => ∃ (x4_1 : Int) (x133005_1 : List ByteArray) (u133005 : Value), v4 = .int .i64 x4_1 ∧ Aside0 (prolepsislaw14_Of.l0 kq x4_1 a0_0 a0_1 a0_2 a0_3 a0_4 l0_5 a0_0 a0_1 a0_2 a0_3 a0_4 x133005_1 = some (r1, r2, r3, r4, r5, r6)) ∧ Aside0 (kq ≤ k) ∧ Aside0 (Kd.R Kd.string 9 w' w.heap.size (fun _ => True) u133005 x133005_1) ∧ Aside0 (w'.heap[gb130]? = some (.cells #[.int .u64 a0_0, .int .u64 a0_1, .int .i64 a0_2, .int .i64 a0_3, .int .u64 a0_4, (.slice A0_5 l0_5.length c0_5)] 66 (0, 0))) ∧ Aside0 (w'.heap[gb131]? = some (.cells #[.int .u64 0, .int .u64 0, .int .i64 0, .int .i64 0, .int .u64 0, (.slice none 0 0)] 71 (0, 0))) ∧ Aside0 (w'.heap[gb132]? = some (.cells #[.int .u64 a0_0, .int .u64 a0_1, .int .i64 a0_2, .int .i64 a0_3, .int .u64 a0_4, u133005] 71 (0, 0))) ∧ Aside0 (Below w.heap.size w w'))
  case atStart => exact ⟨(0), (([] : List ByteArray)), (.slice none 0 0), (by first | rfl | (simp; done) | (simp [*]; done)), H', ⟨Nat.le_refl _⟩, ⟨by first | exact Kd.R_nil _ _ _ _ _ | exact Kd.N_nil _ _ _ _ _ | exact Kd.V_nil _ _ _ _ _ | exact Kd.Q_nil _ _ _ _ _ | exact Kd.S_nil _ _ _ _ _⟩, ⟨by (with_reducible repeat (first | apply bN | apply bD | apply bA)); refine blk_far ?_ NB130_132.out _; refine blk_far ?_ NB130_132.out _; refine blk_far ?_ NB130_132.out _; refine blk_far ?_ NB130_132.out _; refine blk_far ?_ NB130_132.out _; refine blk_far ?_ NB130_132.out _; (with_reducible repeat (first | apply bN | apply bD | apply bA)); exact BK130.out⟩, ⟨by (with_reducible repeat (first | apply bN | apply bD | apply bA)); refine blk_far ?_ NB131_132.out _; refine blk_far ?_ NB131_132.out _; refine blk_far ?_ NB131_132.out _; refine blk_far ?_ NB131_132.out _; refine blk_far ?_ NB131_132.out _; refine blk_far ?_ NB131_132.out _; (with_reducible repeat (first | apply bN | apply bD | apply bA)); exact BK131.out⟩, ⟨by (with_reducible repeat (first | apply bN | apply bD | apply bA)); refine blk_put (cs := #[.int .u64 a0_0, .int .u64 a0_1, .int .i64 a0_2, .int .i64 a0_3, .int .u64 a0_4, .slice none 0 0]) ?_ 5 _ rfl; refine blk_put (cs := #[.int .u64 a0_0, .int .u64 a0_1, .int .i64 a0_2, .int .i64 a0_3, .int .u64 0, .slice none 0 0]) ?_ 4 _ rfl; refine blk_put (cs := #[.int .u64 a0_0, .int .u64 a0_1, .int .i64 a0_2, .int .i64 0, .int .u64 0, .slice none 0 0]) ?_ 3 _ rfl; refine blk_put (cs := #[.int .u64 a0_0, .int .u64 a0_1, .int .i64 0, .int .i64 0, .int .u64 0, .slice none 0 0]) ?_ 2 _ rfl; refine blk_put (cs := #[.int .u64 a0_0, .int .u64 0, .int .i64 0, .int .i64 0, .int .u64 0, .slice none 0 0]) ?_ 1 _ rfl; refine blk_put (cs := #[.int .u64 0, .int .u64 0, .int .i64 0, .int .i64 0, .int .u64 0, .slice none 0 0]) ?_ 0 _ rfl; (with_reducible repeat (first | apply bN | apply bD | apply bA)); exact BK132.out⟩, ⟨by repeat (first | (with_reducible first | exact HB.out | apply lA | apply lN | apply lD | refine below_set ?_ GE130.out | refine below_set ?_ GE131.out | refine below_set ?_ GE132.out) | exact HB.out)⟩⟩
  case round =>
    clear H'
    try clear p2
    try clear c4
    try clear c7
    try clear c8
    try clear hcz5_0
    try clear hcz5_1
    try clear hcz5_2
    try clear hcz5_3
    try clear hcz5_4
    try clear hcz5_5
    try clear hcz9_0
    try clear hcz9_1
    try clear hcz9_2
    try clear hcz9_3
    try clear hcz9_4
    try clear hcz9_5
    try clear hfz5_0
    try clear hfz5_1
    try clear hfz5_2
    try clear hfz5_3
    try clear hfz5_4
    try clear hfz5_5
    try clear hfz9_0
    try clear hfz9_1
    try clear hfz9_2
    try clear hfz9_3
    try clear hfz9_4
    try clear hfz9_5
    obtain ⟨x4_1, x133005_1, u133005, rfl, HA, HK1, HO_133005, BK130, BK131, BK132, HB⟩ := hrel
    cases gk with
    | zero => exact absurd HA.out (by simp [prolepsislaw14_Of.l0])
    | succ k1 =>
      have H := HA.out
      clear HA
      simp only [prolepsislaw14_Of.l0] at H
      by_cases c10 : x4_1 < (l0_5.length : Int)
      · rw [if_pos c10] at H
        have c10b0 : decide (x4_1 < (l0_5.length : Int)) = true := decide_eq_true c10
        clear c10
        by_cases c11 : 0 ≤ x4_1
        · rw [if_pos c11] at H
          have c11b0 : decide (0 ≤ x4_1) = true := decide_eq_true c11
          clear c11
          by_cases c12 : x133005_1.length < 8796093022208
          · rw [if_pos c12] at H
            have LMc12 := Aside0.mk c12
            clear c12
            obtain ⟨y134, hy134⟩ : ∃ y_ : List ByteArray, y_ = (x133005_1 ++ [strOfNums (rd_L1 l0_5 x4_1)]) := ⟨_, rfl⟩
            replace H : (prolepsislaw14_Of.l0 k1 (wrap64 (x4_1 + 1)) a0_0 a0_1 a0_2 a0_3 a0_4 l0_5 a0_0 a0_1 a0_2 a0_3 a0_4 y134) = some (r1, r2, r3, r4, r5, r6) := by first | (rw [hy134]; with_reducible exact H) | (have H2_ := (Option.bind_some _ _).symm.trans H; rw [hy134]; with_reducible exact H2_) | (have H2_ := (Option.bind_some _ _).symm.trans H; with_reducible exact H2_) | with_reducible exact H | (rw [hy134]; exact H) | exact H
            have Ny134 := Aside0.mk hy134
            clear hy134
            have H' := Aside0.mk H
            clear H
            have hnb13 := NB130_131.out
            have hnc13 := NB131_130.out
            have hnb14 := NB130_132.out
            have hnc14 := NB132_130.out
            obtain ⟨hcz15_0, hcz15_1, hcz15_2, hcz15_3, hcz15_4, hcz15_5, hfz15_0, hfz15_1, hfz15_2, hfz15_3, hfz15_4, hfz15_5⟩ := cel6 BK130.out
            try go_wp2
            have n0_ := a0 (Kd.R_drew HO_133005.out)
            have n1_ := a0 (blk_drew BK130.out)
            have n2_ := a0 (blk_drew BK131.out)
            have n3_ := a0 (blk_drew BK132.out)
            have n4_ := a0 (below_drew1 HB.out)
            clear HO_133005
            clear BK130
            clear BK131
            clear BK132
            clear HB
            have HO_133005 := n0_
            have BK130 := n1_
            have BK131 := n2_
            have BK132 := n3_
            have HB := n4_
            clear n0_ n1_ n2_ n3_ n4_
            have p133 : 0 ≤ (x4_1 : Int) := of_decide_eq_true (by first | (with_reducible assumption) | assumption)
            have q133 : x4_1 < (l0_5.length : Int) := of_decide_eq_true (by first | (with_reducible assumption) | assumption)
            obtain ⟨ad133, A133_0, c133_0, e133, hx133_0, hl133_0, hi133_0⟩ := at_L1 HR0_5.out x4_1 p133 q133
            have hw133_0 := hx133_0
            cases e133
            replace hx133_0 := (HB.out.cell (World.block_lt_of_cell? w _ hx133_0)).trans hx133_0
            have HR133_0 := Aside0.mk hi133_0
            have HC133_0 := Aside0.mk hl133_0
            clear hi133_0 hl133_0
            replace p133 := eq_true p133
            replace q133 := eq_true q133
            refine start_ (n := 12) (S := fun w' => w'.cell? ⟨gb132, 0, none⟩ = some (.int .u64 a0_0) ∧ w'.cell? ⟨gb132, 1, none⟩ = some (.int .u64 a0_1) ∧ w'.cell? ⟨gb132, 2, none⟩ = some (.int .i64 a0_2) ∧ w'.cell? ⟨gb132, 3, none⟩ = some (.int .i64 a0_3) ∧ w'.cell? ⟨gb132, 4, none⟩ = some (.int .u64 a0_4) ∧ w'.cell? ⟨gb132, 5, none⟩ = some (u133005) ∧ w'.cell? ⟨gb130, 0, none⟩ = some (.int .u64 a0_0) ∧ w'.cell? ⟨gb130, 1, none⟩ = some (.int .u64 a0_1) ∧ w'.cell? ⟨gb130, 2, none⟩ = some (.int .i64 a0_2) ∧ w'.cell? ⟨gb130, 3, none⟩ = some (.int .i64 a0_3) ∧ w'.cell? ⟨gb130, 4, none⟩ = some (.int .u64 a0_4) ∧ w'.cell? ⟨gb130, 5, none⟩ = some (.slice (some ad133) l0_5.length c0_5) ∧ w'.cell? (ad133.add (x4_1).toNat) = some (.slice A133_0 (rd_L1 l0_5 x4_1).length c133_0) ∧ (convert 27 9 (.slice A133_0 (rd_L1 l0_5 x4_1).length c133_0)).run Try.prog w' = .ok (.string (strOfNums (rd_L1 l0_5 x4_1))) w') (ds := [11]) (tf 0 12) (by kernel_rfl) rfl rfl ⟨(blk_cell BK132.out 0).trans rfl, (blk_cell BK132.out 1).trans rfl, (blk_cell BK132.out 2).trans rfl, (blk_cell BK132.out 3).trans rfl, (blk_cell BK132.out 4).trans rfl, (blk_cell BK132.out 5).trans rfl, (blk_cell BK130.out 0).trans rfl, (blk_cell BK130.out 1).trans rfl, (blk_cell BK130.out 2).trans rfl, (blk_cell BK130.out 3).trans rfl, (blk_cell BK130.out 4).trans rfl, (blk_cell BK130.out 5).trans rfl, ((HB.out.cell (World.block_lt_of_cell? w _ hw133_0)).trans hw133_0), (Kd.C_string (P := Try.prog) (A := A133_0) (c := c133_0) Try.underlying27 Try.underlying5 Try.underlying9 (Kd.C_below HR133_0.out (by repeat (first | (with_reducible first | exact HB.out | apply lA | apply lN | apply lD) | exact HB.out))))⟩ (fun hHeld => ?_); refine with_tabW prolepsislaw14_Of.tab5 prolepsislaw14_Of.bits5 (fun HT_ HW_ => ?_)
            generalize wr.drew = w16 at HO_133005 BK130 BK131 BK132 HB HR133_0 hx133_0 hHeld ⊢
            refine pure_ (i := 0) (N := some 23) (v := ?_) (a' := ?_) (tf 1 11) rfl rfl (any_of HT_.out (by kernel_rfl)) (fun _ _ _ h => h) (Or.inl ⟨by rfl, ?_⟩) ?_ ?_
            rotate_left
            · intro w'
              go_simp
              with_reducible rfl
            rotate_left
            · simp only [Act.put, List.setIfInBounds_toArray, List.set_cons_zero, List.set_cons_succ, i64_w, i32_w]
              rfl
            refine pure_ (i := 2) (N := some 25) (v := ?_) (a' := ?_) #[true, false, true, false, false, false, false, false, false, false, false, false] rfl rfl (any_of HT_.out (by kernel_rfl)) (fun _ _ _ h => h) (Or.inl ⟨by rfl, ?_⟩) ?_ ?_
            rotate_left
            · intro w'
              go_simp
              with_reducible rfl
            rotate_left
            · simp only [Act.put, List.setIfInBounds_toArray, List.set_cons_zero, List.set_cons_succ, i64_w, i32_w]
              rfl
            refine pure_ (i := 4) (N := some 27) (v := ?_) (a' := ?_) #[true, false, true, false, true, false, false, false, false, false, false, false] rfl rfl (any_of HT_.out (by kernel_rfl)) (fun _ _ _ h => h) (Or.inl ⟨by rfl, ?_⟩) ?_ ?_
            rotate_left
            · intro w'
              go_simp
              with_reducible rfl
            rotate_left
            · simp only [Act.put, List.setIfInBounds_toArray, List.set_cons_zero, List.set_cons_succ, i64_w, i32_w]
              rfl
            refine take_ (i := 1) (N := some 24) (v := ?_) (a' := ?_) #[true, true, true, false, true, false, false, false, false, false, false, false] rfl rfl (take_ofW HT_.out HW_.out (by kernel_rfl)) (fun _ _ _ h => h) (Or.inl ⟨by rfl, ?_⟩) hHeld ?_ ?_
            rotate_left
            · rintro w' ⟨s0, s1, s2, s3, s4, s5, s6, s7, s8, s9, s10, s11, s12, s13⟩
              go_simp
              with_reducible rfl
            rotate_left
            · simp only [Act.put, List.setIfInBounds_toArray, List.set_cons_zero, List.set_cons_succ, i64_w, i32_w]
              rfl
            refine take_ (i := 3) (N := some 26) (v := ?_) (a' := ?_) (tf 5 7) rfl rfl (take_ofW HT_.out HW_.out (by kernel_rfl)) (fun _ _ _ h => h) (Or.inl ⟨by rfl, ?_⟩) hHeld ?_ ?_
            rotate_left
            · rintro w' ⟨s0, s1, s2, s3, s4, s5, s6, s7, s8, s9, s10, s11, s12, s13⟩
              go_simp
              with_reducible rfl
            rotate_left
            · simp only [Act.put, List.setIfInBounds_toArray, List.set_cons_zero, List.set_cons_succ, i64_w, i32_w]
              rfl
            refine pure_ (i := 5) (N := some 28) (v := ?_) (a' := ?_) (tf 6 6) rfl rfl (any_of HT_.out (by kernel_rfl)) (fun _ _ _ h => h) (Or.inl ⟨by rfl, ?_⟩) ?_ ?_
            rotate_left
            · intro w'
              go_simp
              with_reducible rfl
            rotate_left
            · simp only [Act.put, List.setIfInBounds_toArray, List.set_cons_zero, List.set_cons_succ, i64_w, i32_w]
              rfl
            refine take_ (i := 6) (N := some 29) (v := ?_) (a' := ?_) (tf 7 5) rfl rfl (take_ofW HT_.out HW_.out (by kernel_rfl)) (fun _ _ _ h => h) (Or.inl ⟨by rfl, ?_⟩) hHeld ?_ ?_
            rotate_left
            · rintro w' ⟨s0, s1, s2, s3, s4, s5, s6, s7, s8, s9, s10, s11, s12, s13⟩
              go_simp
              with_reducible rfl
            rotate_left
            · simp only [Act.put, List.setIfInBounds_toArray, List.set_cons_zero, List.set_cons_succ, i64_w, i32_w]
              rfl
            refine take_ (i := 7) (N := some 30) (v := ?_) (a' := ?_) (tf 8 4) rfl rfl (take_ofW HT_.out HW_.out (by kernel_rfl)) (fun _ _ _ h => h) (Or.inl ⟨by rfl, ?_⟩) hHeld ?_ ?_
            rotate_left
            · rintro w' ⟨s0, s1, s2, s3, s4, s5, s6, s7, s8, s9, s10, s11, s12, s13⟩
              go_simp
              with_reducible rfl
            rotate_left
            · simp only [Act.put, List.setIfInBounds_toArray, List.set_cons_zero, List.set_cons_succ, i64_w, i32_w]
              rfl
            refine one_ (i := 8) (N := some 31) (tf 9 3) rfl rfl (one_of HT_.out (by kernel_rfl)) (by decide) (fun K hK => ?_)
            refine value_ (w1 := ?_) (v := ?_) (by rfl) rfl ?_ ?_
            rotate_left 2
            · go_simp
              constructor
              · rfl
              · rfl
            refine hK.out _ _ ⟨(blk_cell (blk_alloc BK132.out _) 0).trans rfl, (blk_cell (blk_alloc BK132.out _) 1).trans rfl, (blk_cell (blk_alloc BK132.out _) 2).trans rfl, (blk_cell (blk_alloc BK132.out _) 3).trans rfl, (blk_cell (blk_alloc BK132.out _) 4).trans rfl, (blk_cell (blk_alloc BK132.out _) 5).trans rfl, (blk_cell (blk_alloc BK130.out _) 0).trans rfl, (blk_cell (blk_alloc BK130.out _) 1).trans rfl, (blk_cell (blk_alloc BK130.out _) 2).trans rfl, (blk_cell (blk_alloc BK130.out _) 3).trans rfl, (blk_cell (blk_alloc BK130.out _) 4).trans rfl, (blk_cell (blk_alloc BK130.out _) 5).trans rfl, (World.cell?_alloc_lt _ _ _ (World.block_lt_of_cell? _ _ (((HB.out.cell (World.block_lt_of_cell? w _ hw133_0)).trans hw133_0)))).trans (((HB.out.cell (World.block_lt_of_cell? w _ hw133_0)).trans hw133_0)), ((Kd.C_string (P := Try.prog) (A := A133_0) (c := c133_0) Try.underlying27 Try.underlying5 Try.underlying9 (Kd.C_below HR133_0.out (by repeat (first | (with_reducible first | exact HB.out | apply lA | apply lN | apply lD) | exact HB.out)))))⟩ (fun hHeld => ?_)
            clear hK K
            refine norm_ (a' := ?_) ?_ ?_
            rotate_left
            · show Act.put _ (some 31) _ = _
              simp only [Act.put, List.setIfInBounds_toArray, List.set_cons_zero, List.set_cons_succ, i64_w, i32_w]
              rfl
            refine one_ (i := 9) (N := some 32) (tf 10 2) rfl rfl (one_of HT_.out (by kernel_rfl)) (by decide) (fun K hK => ?_)
            refine Kd.R_append_step Kd.string (w0 := w) w.heap.size (by rfl) (.tmp 24) (.tmp 31) 69 9 (.string ⟨#[]⟩) 16 rfl Try.underlying69 info9 rfl (by decide) (by omega) u133005 x133005_1 (strOfNums (rd_L1 l0_5 x4_1)) [.string (strOfNums (rd_L1 l0_5 x4_1))] (fun _ => True) (fun _ => False) rfl rfl ?aP (fun _ hk => hk.elim) ?aF ?aO ?aB ?aS ?aL ?_
            (case aP => exact rfl)
            (case aB => exact (by repeat (first | (with_reducible first | exact HB.out | apply lA | apply lN | apply lD | refine below_set ?_ GE130.out | refine below_set ?_ GE131.out | refine below_set ?_ GE132.out) | exact HB.out)))
            (case aF => exact (fun _ _ => trivial))
            (case aO => exact (by (with_reducible repeat (first | apply rA | apply rN | apply rD)); exact HO_133005.out))
            (case aS => exact (below_size (by repeat (first | (with_reducible first | exact HB.out | apply lA | apply lN | apply lD | refine below_set ?_ GE130.out | refine below_set ?_ GE131.out | refine below_set ?_ GE132.out) | exact HB.out))))
            (case aL => have := LMc12.out; omega)
            intro v135 w17 ho hb hg hat
            rw [← Ny134.out] at ho
            have n0_ := a0 (blk_grown (g := gb130) (o := .cells #[.int .u64 a0_0, .int .u64 a0_1, .int .i64 a0_2, .int .i64 a0_3, .int .u64 a0_4, .slice (some ad133) l0_5.length c0_5] 66 (0, 0)) (by (with_reducible repeat (first | apply bN | apply bD | apply bA)); exact BK130.out) hg (Kd.R_ne HO_133005.out BK130.out (by decide)))
            have n1_ := a0 (blk_grown (g := gb131) (o := .cells #[.int .u64 0, .int .u64 0, .int .i64 0, .int .i64 0, .int .u64 0, .slice none 0 0] 71 (0, 0)) (by (with_reducible repeat (first | apply bN | apply bD | apply bA)); exact BK131.out) hg (Kd.R_ne HO_133005.out BK131.out (by decide)))
            have n2_ := a0 (blk_grown (g := gb132) (o := .cells #[.int .u64 a0_0, .int .u64 a0_1, .int .i64 a0_2, .int .i64 a0_3, .int .u64 a0_4, u133005] 71 (0, 0)) (by (with_reducible repeat (first | apply bN | apply bD | apply bA)); exact BK132.out) hg (Kd.R_ne HO_133005.out BK132.out (by decide)))
            have n3_ := a0 (hb)
            have n4_ := a0 (ho)
            clear BK130
            clear BK131
            clear BK132
            clear HB
            clear HO_133005
            have BK130 := n0_
            have BK131 := n1_
            have BK132 := n2_
            have HB := n3_
            have HO136 := n4_
            clear n0_ n1_ n2_ n3_ n4_
            clear ho hb hg hat
            obtain ⟨Ao18, co18, eo18⟩ := Kd.R_slice HO136.out
            (first | subst eo18 | (injection eo18 with f1_ f2_ f3_; have f4_ := f1_.symm; have f5_ := f3_.symm; clear f1_ f2_ f3_; subst f4_; subst f5_))
            refine hK.out _ _ ⟨(blk_cell BK132.out 0).trans rfl, (blk_cell BK132.out 1).trans rfl, (blk_cell BK132.out 2).trans rfl, (blk_cell BK132.out 3).trans rfl, (blk_cell BK132.out 4).trans rfl, (blk_cell BK132.out 5).trans rfl, (blk_cell BK130.out 0).trans rfl, (blk_cell BK130.out 1).trans rfl, (blk_cell BK130.out 2).trans rfl, (blk_cell BK130.out 3).trans rfl, (blk_cell BK130.out 4).trans rfl, (blk_cell BK130.out 5).trans rfl, ((HB.out.cell (World.block_lt_of_cell? w _ hw133_0)).trans hw133_0), (Kd.C_string (P := Try.prog) (A := A133_0) (c := c133_0) Try.underlying27 Try.underlying5 Try.underlying9 (Kd.C_below HR133_0.out (by repeat (first | (with_reducible first | exact HB.out | apply lA | apply lN | apply lD) | exact HB.out))))⟩ (fun hHeld => ?_)
            clear hK K
            refine norm_ (a' := ?_) ?_ ?_
            rotate_left
            · show Act.put _ (some 32) _ = _
              simp only [Act.put, List.setIfInBounds_toArray, List.set_cons_zero, List.set_cons_succ, i64_w, i32_w]
              rfl
            refine pure_ (i := 10) (N := some 33) (v := ?_) (a' := ?_) (tf 11 1) rfl rfl (any_of HT_.out (by kernel_rfl)) (fun _ _ _ h => h) (Or.inl ⟨by rfl, ?_⟩) ?_ ?_
            rotate_left
            · intro w'
              go_simp
              with_reducible rfl
            rotate_left
            · simp only [Act.put, List.setIfInBounds_toArray, List.set_cons_zero, List.set_cons_succ, i64_w, i32_w]
              rfl
            refine last_ (i := 11) (N := none) (tf 12 0) rfl rfl (one_of HT_.out (by kernel_rfl)) (by decide) (fun K hK => ?_)
            have hs19 : w17.cell? ⟨gb132, 5, none⟩ = some (u133005) := (blk_cell BK132.out 5).trans rfl
            have hfs19 := blk_frozen BK132.out 5
            have hns19_0 := NB130_132.out
            have hns19_1 := NB131_132.out
            have hms19_0 := NB132_130.out
            have hms19_1 := NB132_131.out
            refine skip_ (w1 := ?_) (by rfl) rfl ?_ ?_
            rotate_left
            · go_simp
              rfl
            refine hK.out _ _ ?_
            clear hK K
            refine done_ (done_of HT_.out (by kernel_rfl)) ?_
            try go_wp2
            go_roundg k1
            case measure => have := HK1.out; omega
            case rel => exact ⟨(wrap64 (x4_1 + 1)), (y134), (.slice Ao18 y134.length co18), (by first | rfl | (simp; done) | (simp [*]; done)), H', ⟨by have := HK1.out; omega⟩, ⟨by (with_reducible repeat (first | apply rA | apply rN | apply rD)); exact Kd.R_mono (Kd.R_far (p := ⟨gb132, 5, none⟩) (Kd.R_types HO136.out BK132.out (by decide)) (fun _ hk => hk.2) (.slice Ao18 y134.length co18)) (fun _ hk => trivial)⟩, ⟨by (with_reducible repeat (first | apply bN | apply bD | apply bA)); refine blk_far ?_ NB130_132.out _; (with_reducible repeat (first | apply bN | apply bD | apply bA)); exact BK130.out⟩, ⟨by (with_reducible repeat (first | apply bN | apply bD | apply bA)); refine blk_far ?_ NB131_132.out _; (with_reducible repeat (first | apply bN | apply bD | apply bA)); exact BK131.out⟩, ⟨by (with_reducible repeat (first | apply bN | apply bD | apply bA)); refine blk_put (cs := #[.int .u64 a0_0, .int .u64 a0_1, .int .i64 a0_2, .int .i64 a0_3, .int .u64 a0_4, u133005]) ?_ 5 _ rfl; (with_reducible repeat (first | apply bN | apply bD | apply bA)); exact BK132.out⟩, ⟨by repeat (first | (with_reducible first | exact HB.out | apply lA | apply lN | apply lD | refine below_set ?_ GE130.out | refine below_set ?_ GE131.out | refine below_set ?_ GE132.out) | exact HB.out)⟩⟩
          · rw [if_neg c12] at H
            exact absurd H (by simp)
        · rw [if_neg c11] at H
          exact absurd H (by simp)
      · rw [if_neg c10] at H
        have c10b0 : decide (x4_1 < (l0_5.length : Int)) = false := decide_eq_false c10
        clear c10
        simp only [Option.some.injEq, Prod.mk.injEq] at H
        obtain ⟨rfl, rfl, rfl, rfl, rfl, rfl⟩ := H
        have hnb20 := NB130_131.out
        have hnc20 := NB131_130.out
        have hnb21 := NB130_132.out
        have hnc21 := NB132_130.out
        obtain ⟨hcz22_0, hcz22_1, hcz22_2, hcz22_3, hcz22_4, hcz22_5, hfz22_0, hfz22_1, hfz22_2, hfz22_3, hfz22_4, hfz22_5⟩ := cel6 BK130.out
        have hnb23 := NB132_131.out
        have hnc23 := NB131_132.out
        obtain ⟨hcz24_0, hcz24_1, hcz24_2, hcz24_3, hcz24_4, hcz24_5, hfz24_0, hfz24_1, hfz24_2, hfz24_3, hfz24_4, hfz24_5⟩ := cel6 BK132.out
        obtain ⟨hcz25_0, hcz25_1, hcz25_2, hcz25_3, hcz25_4, hcz25_5, hfz25_0, hfz25_1, hfz25_2, hfz25_3, hfz25_4, hfz25_5⟩ := cel6 BK131.out
        obtain ⟨Ao26, co26, eo26⟩ := Kd.R_slice HO_133005.out
        subst eo26
        go_wp2
        refine bodyPost_ret (results_cell_row rfl _ _ gb131 71 #[.int .u64 a0_0, .int .u64 a0_1, .int .i64 a0_2, .int .i64 a0_3, .int .u64 a0_4, .slice Ao26 x133005_1.length co26] (0, 0) _ rfl (by (with_reducible repeat (first | apply bN | apply bD | apply bA)); refine blk_put (cs := #[.int .u64 a0_0, .int .u64 a0_1, .int .i64 a0_2, .int .i64 a0_3, .int .u64 a0_4, .slice none 0 0]) ?_ 5 _ rfl; refine blk_put (cs := #[.int .u64 a0_0, .int .u64 a0_1, .int .i64 a0_2, .int .i64 a0_3, .int .u64 0, .slice none 0 0]) ?_ 4 _ rfl; refine blk_put (cs := #[.int .u64 a0_0, .int .u64 a0_1, .int .i64 a0_2, .int .i64 0, .int .u64 0, .slice none 0 0]) ?_ 3 _ rfl; refine blk_put (cs := #[.int .u64 a0_0, .int .u64 a0_1, .int .i64 0, .int .i64 0, .int .u64 0, .slice none 0 0]) ?_ 2 _ rfl; refine blk_put (cs := #[.int .u64 a0_0, .int .u64 0, .int .i64 0, .int .i64 0, .int .u64 0, .slice none 0 0]) ?_ 1 _ rfl; refine blk_put (cs := #[.int .u64 0, .int .u64 0, .int .i64 0, .int .i64 0, .int .u64 0, .slice none 0 0]) ?_ 0 _ rfl; (with_reducible repeat (first | apply bN | apply bD | apply bA)); exact BK131.out) Try.underlying71 rfl (by kernel_rfl)) rfl ?_
        exact ⟨_, by first | rfl | (simp <;> rfl) | (simp [*] <;> rfl), by (with_reducible repeat (first | apply rA | apply rN | apply rD)); exact Kd.R_mono (Kd.R_far (p := ⟨gb131, 5, none⟩) (Kd.R_far (p := ⟨gb131, 4, none⟩) (Kd.R_far (p := ⟨gb131, 3, none⟩) (Kd.R_far (p := ⟨gb131, 2, none⟩) (Kd.R_far (p := ⟨gb131, 1, none⟩) (Kd.R_far (p := ⟨gb131, 0, none⟩) (Kd.R_types HO_133005.out BK131.out (by decide)) (fun _ hk => hk.2) (.int .u64 a0_0)) (fun _ hk => hk.2) (.int .u64 a0_1)) (fun _ hk => hk.2) (.int .i64 a0_2)) (fun _ hk => hk.2) (.int .i64 a0_3)) (fun _ hk => hk.2) (.int .u64 a0_4)) (fun _ hk => hk.2) (.slice Ao26 x133005_1.length co26)) (fun _ hk => trivial), by repeat (first | (with_reducible first | exact HB.out | apply lA | apply lN | apply lD | refine below_set ?_ GE130.out | refine below_set ?_ GE131.out | refine below_set ?_ GE132.out) | exact HB.out)⟩

end Go.Proofs.Ytpephndecdkfhaa.PKeygramTells
