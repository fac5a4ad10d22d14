/- parse.All, the law's Same, and what the law knows. -/
import Derived.Test.YtlllbaieidbcdaaPaH
namespace Go.Proofs.Ytlllbaieidbcdaa.Str
open Go.RowKit Go.Proofs.Ytlllbaieidbcdaa Go.Proofs.Ytlllbaieidbcdaa.PParseEvents Go.Proofs.YtlllbaieidbcdaaW.PrintWords Go.Proofs.YtlllbaieidbcdaaW.PrintLast Go.Proofs.YtlllbaieidbcdaaW.PrintMore
set_option linter.unusedVariables false
set_option linter.unusedSimpArgs false
set_option maxRecDepth 100000 in
set_option maxHeartbeats 4000000 in
theorem PAll_any (A : Option Addr) (c : Nat) (b : List Int) (W : World) (hC : Kd.C (Kd.int .u8) W A b.length b) (h8 : In8u b) (hb : b.length ≤ 1000) :
    Calls Try.prog 19 #[.slice A b.length c] W fun e w' => ∃ A1 c1, e = .returned (.slice A1 (allV b).length c1) ∧ (allV b).length ≤ c1 ∧ Kd.C kEv w' A1 (allV b).length (allV b) ∧ Below W.heap.size W w' := by
  have hS0 : StS (0 : Int) (.slice none 0 0) W (W.alloc (.cells #[.int .u8 0, .int .u8 0, .int .u8 0, .int .i64 0, .int .i64 0, .slice none 0 0] 28)) W.heap.size [] :=
    ⟨below_alloc (Below.refl _ _) _, Nat.le_refl _, by simp, 0, 0, 0, blk_new _ _, rfl⟩
  obtain ⟨⟨p, E⟩, hp⟩ : ∃ q, feedV ⟨0, [], []⟩ b = q := ⟨_, rfl⟩
  have hel := feed_len b pp0_ok h8
  rw [hp] at hel
  have hall : allV b = E ++ flushV p.h := by unfold allV; rw [hp]
  obtain ⟨Z, hZ⟩ : ∃ Z, allV b = Z := ⟨_, rfl⟩
  have hfl := flushV_len p.h
  have HE := Aside0.mk (show E.length ≤ 4000 by dsimp only at hel; omega)
  have HFL := Aside0.mk hfl
  have HP := Aside0.mk hp
  have HZ := Aside0.mk (show E ++ flushV p.h = Z by rw [← hall, hZ])
  have HS := Aside0.mk hS0
  have HC := Aside0.mk (Kd.F_mono (Kd.F_alloc (Kd.C_F (Kd.heap_int .u8) hC) (.cells #[.int .u8 0, .int .u8 0, .int .u8 0, .int .i64 0, .int .i64 0, .slice none 0 0] 28)) (ok' := fun k => k ≠ W.heap.size ∧ some k ≠ (Value.slice none 0 0).ownBlock) (fun k hk => ⟨Nat.ne_of_lt hk, by simp [Value.ownBlock]⟩))
  have H8 := Aside0.mk h8
  have HB := Aside0.mk hb
  rw [hZ]
  clear hS0 hp hel hall hC h8 hb hZ hfl
  go_enter Try.func19, Try.ntmps19
  go_wp2_with (first | (go_at_call 9; go_must (refine (PFeed_any W _ W.heap.size ⟨0, [], []⟩ (.slice none 0 0) 0 A c b HS.out (Kd.R_nil _ _ _ _ _) pp0_ok (by have := HB.out; omega) HC.out H8.out).mono ?_); rintro e w1 ⟨nv1, vo, rfl, hF⟩; rw [HP.out] at hF; dsimp only at hF; have HF := Aside0.mk hF; clear hF) | (go_at_call 14; go_must (refine (PFlush_any ⟨HF.out.st, HF.out.rn⟩).mono ?_); rintro e w2 ⟨A2, c2, rfl, hc2, hF2, hP2, hK2⟩; have H2 := Aside0.mk (And.intro hF2 (And.intro hP2 hK2)); clear hF2 hP2 hK2 hc2; obtain ⟨A3, c3, rfl⟩ := Kd.N_slice HF.out.on) | ((with_reducible refine gate_builtin (b := .append) (xs := #[.tmp 5, .tmp 6]) rfl ?_); go_must (at_builtin); go_must (refine Kd.N_append_rows kEv (w0 := w2) (W.alloc (.cells #[.int .u8 0, .int .u8 0, .int .u8 0, .int .i64 0, .int .i64 0, .slice none 0 0] 28)).heap.size rfl (.tmp 5) (.tmp 6) 38 46 _ 40 rfl Try.underlying38 infoEv rfl (by decide) (by omega) (.slice A3 E.length c3) E (flushV p.h) A2 _ c2 (fun k => (W.alloc (.cells #[.int .u8 0, .int .u8 0, .int .u8 0, .int .i64 0, .int .i64 0, .slice none 0 0] 28)).heap.size < k ∧ some k ≠ nv1.ownBlock) _ rfl rfl (Kd.N_kept HF.out.on H2.out.2.2 (fun k hk h => by have := HF.out.gl; omega)) H2.out.1 HF.out.freshOk ?aF (Below.refl _ _) ?aB (by have := HE.out; have := HFL.out; omega) ?_); (case aF => exact fun k hk => (HF.out.freshOk k (Nat.le_trans H2.out.2.2.1 hk)).1); (case aB => exact Nat.le_of_lt (Nat.lt_of_lt_of_le HF.out.gs H2.out.2.2.1)); intro v4 w4 ho hb hg hat; rw [HZ.out] at ho; obtain ⟨A4, c4, rfl, hc4, hC4⟩ := Kd.N_reads ho; have H4 := Aside0.mk (And.intro hc4 (And.intro hC4 hb)); clear ho hb hg hat hc4 hC4))
  all_goals go_ret
  all_goals exact ⟨A4, c4, rfl, H4.out.1, H4.out.2.1, H2.out.2.1.st.hb.trans (H4.out.2.2.mono (by simp))⟩
instance : DecidableEq S48 := fun x y => decidable_of_iff (x.f0 = y.f0 ∧ x.f1 = y.f1 ∧ x.f2 = y.f2) ⟨fun h => by cases x; cases y; simp only at h; obtain ⟨rfl, rfl, rfl⟩ := h; rfl, fun h => by subst h; exact ⟨rfl, rfl, rfl⟩⟩
instance : DecidableEq S46 := fun x y => decidable_of_iff (x.f0 = y.f0 ∧ x.f1 = y.f1 ∧ x.f2 = y.f2) ⟨fun h => by cases x; cases y; simp only at h; obtain ⟨rfl, rfl, rfl⟩ := h; rfl, fun h => by subst h; exact ⟨rfl, rfl, rfl⟩⟩
def ev48 (x : S46) : S48 := ⟨x.f0, x.f1, x.f2⟩
theorem dropE {α : Type} {xs : List α} (z : α) {i : Nat} (h : i < xs.length) : xs.drop i = xs.getD i z :: xs.drop (i + 1) := by
  rw [List.drop_eq_getElem_cons h]
  simp [List.getD_eq_getElem?_getD, h]
theorem Same_in (a : List S46) (b : List S48) (i : Nat) (ha : i < a.length) (hb : i < b.length) (n m : List Int) (hn : (rd_T46 a (i : Int)).f2 = n) (hm : (rd_T48 b (i : Int)).f2 = m) (hl : n.length = m.length) (hla : a.length ≤ 1000000) (hnl : n.length ≤ 1000000) (K0 : Nat) (R : Bool)
    (hR : ∀ k, K0 ≤ k → prolepsislaw08_Same.l0 k a b ((i + 1 : Nat) : Int) = some R) : ∀ (e j k : Nat), j + e = n.length → K0 + e < k → prolepsislaw08_Same.l1 k a b (i : Int) (j : Int) = some (decide (n.drop j = m.drop j) && R) := by
  intro e
  induction e with
  | zero =>
    intro j k hj hk
    obtain ⟨k, rfl⟩ := kp hk
    rw [prolepsislaw08_Same.l1, hn, hm, if_pos (by omega), if_pos (by omega), if_neg (by omega), w64 (by omega) (by omega), cast1, hR k (by omega), List.drop_of_length_le (by omega), List.drop_of_length_le (by omega)]
    simp
  | succ e ih =>
    intro j k hj hk
    obtain ⟨k, rfl⟩ := kp hk
    rw [prolepsislaw08_Same.l1, hn, hm, if_pos (by omega), if_pos (by omega), if_pos (by omega), if_pos (by omega), if_pos (by omega), if_pos (by omega)]
    by_cases he : rd n (j : Int) = rd m (j : Int)
    · rw [if_pos he, w64 (by omega) (by omega), cast1, ih (j + 1) k (by omega) (by omega), drop_rd (show j < n.length by omega), drop_rd (show j < m.length by omega), he]
      simp
    · rw [if_neg he, drop_rd (show j < n.length by omega), drop_rd (show j < m.length by omega), decide_eq_false (by simp [he])]
      simp
def smallEv (a : List S46) (M : Nat) : Prop := ∀ x ∈ a, (-2147483648 ≤ x.f1 ∧ x.f1 ≤ 2147483647) ∧ x.f2.length ≤ M
theorem Same_out (a : List S46) (b : List S48) (hl : a.length = b.length) (M : Nat) (hM : M ≤ 1000000) (hs : smallEv a M) (hla : a.length ≤ 1000000) :
    ∀ (d i k : Nat), i + d = a.length → d * (M + 3) < k → prolepsislaw08_Same.l0 k a b (i : Int) = some (decide ((a.drop i).map ev48 = b.drop i)) := by
  intro d
  induction d with
  | zero =>
    intro i k hi hk
    obtain ⟨k, rfl⟩ := kp hk
    rw [prolepsislaw08_Same.l0, if_neg (by omega), List.drop_of_length_le (by omega), List.drop_of_length_le (by omega)]
    rfl
  | succ d ih =>
    intro i k hi hk
    have hia : i < a.length := by omega
    have hib : i < b.length := by omega
    have hx : rd_T46 a (i : Int) ∈ a := by simp [rd_T46, List.getD_eq_getElem?_getD, hia]
    have hda : a.drop i = rd_T46 a (i : Int) :: a.drop (i + 1) := by rw [dropE z46 hia]; rfl
    have hdb : b.drop i = rd_T48 b (i : Int) :: b.drop (i + 1) := by rw [dropE z48 hib]; rfl
    obtain ⟨x, hxe⟩ : ∃ x, rd_T46 a (i : Int) = x := ⟨_, rfl⟩
    obtain ⟨y, hye⟩ : ∃ y, rd_T48 b (i : Int) = y := ⟨_, rfl⟩
    have hsx := hs _ hx
    rw [hxe] at hda hsx
    rw [hye] at hdb
    rw [hda, hdb, List.map_cons]
    have hmul : (d + 1) * (M + 3) = d * (M + 3) + (M + 3) := by rw [Nat.succ_mul]
    have hnz : 0 < k := by omega
    obtain ⟨k, rfl⟩ := kp hnz
    rw [prolepsislaw08_Same.l0, hxe, hye, if_pos (by omega), if_pos (by omega), if_pos (by omega), w64 (by omega) (by omega)]
    obtain ⟨x0, x1, x2⟩ := x
    obtain ⟨y0, y1, y2⟩ := y
    dsimp only at *
    have hj : ∀ t, prolepsislaw08_Same.j1 k a b (i : Int) t = if t = true then some false else prolepsislaw08_Same.l1 (k - 1) a b (i : Int) 0 := by
      intro t
      obtain ⟨k, rfl⟩ := kp (show 0 < k by omega)
      rw [prolepsislaw08_Same.j1]
      rfl
    by_cases h0 : x0 = y0
    · rw [if_pos h0]
      by_cases h1 : x1 = y1
      · rw [if_pos h1, hj]
        by_cases h2 : x2.length = y2.length
        · rw [if_neg (by simp [h2])]
          have := Same_in a b i hia hib x2 y2 (by rw [hxe]) (by rw [hye]) h2 hla (by omega) (d * (M + 3) + 1) _ (fun k' hk' => ih (i + 1) k' (by omega) (by omega)) x2.length 0 (k - 1) (by omega) (by omega)
          rw [show ((0 : Nat) : Int) = 0 from rfl] at this
          rw [this, List.drop_zero, List.drop_zero]
          subst h0 h1
          simp [ev48]
        · rw [if_pos (by rw [bne_iff_ne]; omega), decide_eq_false]
          intro h
          injection h with h h'
          simp only [ev48] at h
          injection h with _ _ h
          exact h2 (by rw [h])
      · rw [if_neg h1, hj, if_pos rfl, decide_eq_false]
        intro h
        injection h with h h'
        simp only [ev48] at h
        injection h with _ h _
        exact h1 h
    · rw [if_neg h0, hj, if_pos rfl, decide_eq_false]
      intro h
      injection h with h h'
      simp only [ev48] at h
      injection h with h _ _
      exact h0 h
theorem Same_f (a : List S46) (b : List S48) (M : Nat) (hM : M ≤ 1000000) (hs : smallEv a M) (hla : a.length ≤ 1000000) : prolepsislaw08_Same.f (a.length * (M + 3) + 1) a b = some (decide (a.map ev48 = b)) := by
  unfold prolepsislaw08_Same.f
  by_cases hl : a.length = b.length
  · rw [if_pos (by omega)]
    have := Same_out a b hl M hM hs hla a.length 0 _ (by omega) (Nat.lt_succ_self _)
    simpa using this
  · rw [if_neg (by omega), decide_eq_false]
    intro h
    exact hl (by rw [← h, List.length_map])
theorem Same_ev (A : Option Addr) (c : Nat) (a : List S46) (A' : Option Addr) (c' : Nat) (b : List S48) (W : World) (hC : Kd.C kEv W A a.length a) (hc : a.length ≤ c) (hC' : Kd.C k48 W A' b.length b) (hc' : b.length ≤ c') (M : Nat) (hM : M ≤ 1000000) (hs : smallEv a M) (hla : a.length ≤ 1000000) {r : Bool} (hr : decide (a.map ev48 = b) = r) :
    Calls Try.prog 8 #[.slice A a.length c, .slice A' b.length c'] W fun e w' => e = .returned (.bool r) ∧ Below W.heap.size W w' :=
  (prolepsislaw08_Same.calls _ A c a A' c' b r W hC hc hC' hc' (by rw [Same_f a b M hM hs hla, hr])).mono (fun e w' ⟨h, hd⟩ => ⟨h, hd.below⟩)
end Go.Proofs.Ytlllbaieidbcdaa.Str
