/- KeygramTells: what its proof leads to. No condition. -/
import Derived.Test.YtpephndecdkfhaaPStqKeygramTells
import Derived.Test.YtpephndecdkfhaaKgBqKeygramTells
namespace Go.Proofs.Ytpephndecdkfhaa
open Go.RowKit Go.Proofs.YtpephndecdkfhaaW.PrintWords Go.Proofs.YtpephndecdkfhaaW.PrintLast Go.Proofs.YtpephndecdkfhaaW.PrintMore
set_option linter.unusedVariables false
set_option linter.unusedSimpArgs false
theorem wp_scope_same {P : Program} {a : Act} {w : World} {Q : Exit → Act → World → Prop} {c : Code} (hQ : ∀ l a w, Q (.goto l) a w → False) (h : c.wp P Q a w) : (Code.scope c).wp P Q a w := by
  intro b k cs
  obtain ⟨e, a₁, w₁, hq, harr⟩ := h b (.inScope c :: k) cs
  cases e with
  | normal => exact ⟨.normal, a₁, w₁, hq, .head step_scope (Steps.trans harr (.one step_inScope))⟩
  | exit id => exact ⟨.exit id, a₁, w₁, hq, fun k' hk => .head step_scope (harr k' (by simp [exitTo, hk]))⟩
  | goto l' => exact absurd hq (fun h => hQ _ _ _ h)
  | ret => exact ⟨_, a₁, w₁, hq, .of_steps (.one step_scope) harr⟩
  | panic ch => exact ⟨_, a₁, w₁, hq, .of_steps (.one step_scope) harr⟩
  | outgrown => exact ⟨_, a₁, w₁, hq, .of_steps (.one step_scope) harr⟩
def kA (l : List Int) : RS × Int := RS.number ⟨l, 0, 0⟩
def kB (l : List Int) : RS × Int := (kA l).1.number
def kR (l : List Int) : RS × Int := (kB l).1.up 512 5
def kC (l : List Int) : RS × Int := (kR l).1.up 512 5
def kF (l : List Int) : RS × Int := (kC l).1.number
def kN (l : List Int) : RS × Int := (kF l).1.up 64 6
/-- One key. -/
def kU (s : RS) : RS := if (s.up 8 5).1.e = 0 ∧ (s.up 8 5).2 = 0 then (s.up 8 5).1.fail 3 else (s.up 8 5).1
def kKey (s : RS) : RS × List Int := (kU s).take (s.up 8 5).2
def gkeys : Nat → RS → List (List Int) → List (List Int) × RS
  | 0, s, ks => (ks, s)
  | n + 1, s, ks => if (kKey s).1.e = 0 then gkeys n (kKey s).1 (ks ++ [(kKey s).2]) else (ks ++ [(kKey s).2], (kKey s).1)
def kK (l : List Int) : List (List Int) × RS := gkeys (kN l).2.toNat (kN l).1 []
def kE (l : List Int) : Int := if (kK l).2.done = 0 then gcheck (kR l).2 (kC l).2 (kF l).2 (kK l).1 else (kK l).2.done
/-- The gram of bytes; the error. -/
def gparse (l : List Int) : Int × Int × Int × Int × Int × List (List Int) × Int :=
  if l.length = 0 ∨ l.getD 0 0 ≠ 75 then (0, 0, 0, 0, 0, [], 12) else if kE (l.drop 1) = 0 then ((kA (l.drop 1)).2, (kB (l.drop 1)).2, (kR (l.drop 1)).2, (kC (l.drop 1)).2, (kF (l.drop 1)).2, (kK (l.drop 1)).1, 0) else (0, 0, 0, 0, 0, [], kE (l.drop 1))
theorem kN_len (l : List Int) : (kN l).1.l.length ≤ l.length := by
  unfold kN kF kC kR kB kA
  refine Nat.le_trans (RS.up_len _ _ _) (Nat.le_trans (RS.number_len _) (Nat.le_trans (RS.up_len _ _ _) (Nat.le_trans (RS.up_len _ _ _) (Nat.le_trans (RS.number_len _) (RS.number_len _)))))
theorem kU_len (s : RS) : (kU s).l.length ≤ s.l.length := by
  unfold kU
  split
  · exact Nat.le_trans (RS.fail_len _ _) (RS.up_len _ _ _)
  · exact RS.up_len _ _ _
theorem kKey_len (s : RS) : (kKey s).1.l.length ≤ s.l.length := Nat.le_trans (RS.take_len _ _) (kU_len s)
theorem kU_fail {s : RS} (h1 : (s.up 8 5).1.e = 0) (h2 : (s.up 8 5).2 = 0) : kU s = (s.up 8 5).1.fail 3 := by unfold kU; rw [if_pos ⟨h1, h2⟩]
theorem kU_ok {s : RS} (h : ¬ ((s.up 8 5).1.e = 0 ∧ (s.up 8 5).2 = 0)) : kU s = (s.up 8 5).1 := by unfold kU; rw [if_neg h]
theorem gparse_bad {l : List Int} (h : l.length = 0 ∨ l.getD 0 0 ≠ 75) : gparse l = (0, 0, 0, 0, 0, [], 12) := by unfold gparse; rw [if_pos h]
theorem gparse_ok {l : List Int} (h : ¬ (l.length = 0 ∨ l.getD 0 0 ≠ 75)) (he : kE (l.drop 1) = 0) : gparse l = ((kA (l.drop 1)).2, (kB (l.drop 1)).2, (kR (l.drop 1)).2, (kC (l.drop 1)).2, (kF (l.drop 1)).2, (kK (l.drop 1)).1, 0) := by unfold gparse; rw [if_neg h, if_pos he]
theorem gparse_no {l : List Int} (h : ¬ (l.length = 0 ∨ l.getD 0 0 ≠ 75)) (he : ¬ kE (l.drop 1) = 0) : gparse l = (0, 0, 0, 0, 0, [], kE (l.drop 1)) := by unfold gparse; rw [if_neg h, if_neg he]
abbrev gbox (a b r c f : Int) (v : Value) : Array Value := #[.int .u64 a, .int .u64 b, .int .i64 r, .int .i64 c, .int .u64 f, v]
theorem kgInfo : (Try.prog.info? 27).map (fun i => (i.zero, i.size, i.bytes)) = some (some (.slice none 0 0), 1, 24) := by kernel_rfl
def KgPost (w w' : World) (e : Ending) (p : Int × Int × Int × Int × Int × List (List Int) × Int) : Prop :=
  ∃ v, e = .returned (.tuple #[.agg #[.int .u64 p.1, .int .u64 p.2.1, .int .i64 p.2.2.1, .int .i64 p.2.2.2.1, .int .u64 p.2.2.2.2.1, v], .int .i64 p.2.2.2.2.2.2]) ∧ Kd.N (Kd.slice 5 (Kd.int .u8)) 27 w' w.heap.size (fun k => w.heap.size ≤ k) v p.2.2.2.2.2.1 ∧ Below w.heap.size w w'
theorem kg_res {w W : World} (hB : Below (w.alloc (.cells #[.int .u64 0, .int .u64 0, .int .i64 0, .int .i64 0, .int .u64 0, .slice none 0 0] 66)).heap.size (w.alloc (.cells #[.int .u64 0, .int .u64 0, .int .i64 0, .int .i64 0, .int .u64 0, .slice none 0 0] 66)) W) : W.heap[w.heap.size]? = some (.cells #[.int .u64 0, .int .u64 0, .int .i64 0, .int .i64 0, .int .u64 0, .slice none 0 0] 66 (0, 0)) := blk_below (blk_new w _) hB
theorem kg_bel {w W : World} (hB : Below (w.alloc (.cells #[.int .u64 0, .int .u64 0, .int .i64 0, .int .i64 0, .int .u64 0, .slice none 0 0] 66)).heap.size (w.alloc (.cells #[.int .u64 0, .int .u64 0, .int .i64 0, .int .i64 0, .int .u64 0, .slice none 0 0] 66)) W) : Below w.heap.size w W := below_then (below_alloc (Below.refl _ _) _) (by simp) hB
/-- The world behind the store into the result's box. -/
def kgOut (W : World) (g : Nat) (a b r c f : Int) (v : Value) : World := (((((W.setCell ⟨g, 0, none⟩ (.int .u64 a)).setCell ⟨g, 1, none⟩ (.int .u64 b)).setCell ⟨g, 2, none⟩ (.int .i64 r)).setCell ⟨g, 3, none⟩ (.int .i64 c)).setCell ⟨g, 4, none⟩ (.int .u64 f)).setCell ⟨g, 5, none⟩ v
theorem kgOut_blk {w W : World} (hB : Below (w.alloc (.cells #[.int .u64 0, .int .u64 0, .int .i64 0, .int .i64 0, .int .u64 0, .slice none 0 0] 66)).heap.size (w.alloc (.cells #[.int .u64 0, .int .u64 0, .int .i64 0, .int .i64 0, .int .u64 0, .slice none 0 0] 66)) W) (a b r c f : Int) (v : Value) : (kgOut W w.heap.size a b r c f v).heap[w.heap.size]? = some (.cells (gbox a b r c f v) 66 (0, 0)) :=
  blk_set (blk_set (blk_set (blk_set (blk_set (blk_set (kg_res hB) 0 _) 1 _) 2 _) 3 _) 4 _) 5 _
theorem kgOut_bel {w W : World} (hB : Below (w.alloc (.cells #[.int .u64 0, .int .u64 0, .int .i64 0, .int .i64 0, .int .u64 0, .slice none 0 0] 66)).heap.size (w.alloc (.cells #[.int .u64 0, .int .u64 0, .int .i64 0, .int .i64 0, .int .u64 0, .slice none 0 0] 66)) W) (a b r c f : Int) (v : Value) : Below w.heap.size w (kgOut W w.heap.size a b r c f v) :=
  ((((((kg_bel hB).setCell (Nat.le_refl _) _).setCell (Nat.le_refl _) _).setCell (Nat.le_refl _) _).setCell (Nat.le_refl _) _).setCell (Nat.le_refl _) _).setCell (Nat.le_refl _) _
theorem kgOut_N {w W : World} {v : Value} {keys : List (List Int)} {base : Nat} {ok : Nat → Prop} (hN : Kd.N (Kd.slice 5 (Kd.int .u8)) 27 W base ok v keys) (hb : w.heap.size ≤ base) (hok : ∀ k, ok k → w.heap.size < k) (a b r c f : Int) (u : Value) :
    Kd.N (Kd.slice 5 (Kd.int .u8)) 27 (kgOut W w.heap.size a b r c f u) w.heap.size (fun k => w.heap.size ≤ k) v keys := by
  have h : ∀ k, ok k → k ≠ w.heap.size := fun k hk => by have := hok k hk; omega
  exact Kd.N_mono (Kd.N_lower (Kd.N_far (p := ⟨w.heap.size, 5, none⟩) (Kd.N_far (p := ⟨w.heap.size, 4, none⟩) (Kd.N_far (p := ⟨w.heap.size, 3, none⟩) (Kd.N_far (p := ⟨w.heap.size, 2, none⟩) (Kd.N_far (p := ⟨w.heap.size, 1, none⟩) (Kd.N_far (p := ⟨w.heap.size, 0, none⟩) hN h _) h _) h _) h _) h _) h _) hb) (fun k hk => Nat.le_of_lt (hok k hk))
theorem kE_no {t : List Int} (h : ¬ (kK t).2.done = 0) : kE t = (kK t).2.done := by unfold kE; rw [if_neg h]
theorem kE_ck {t : List Int} (h : (kK t).2.done = 0) : kE t = gcheck (kR t).2 (kC t).2 (kF t).2 (kK t).1 := by unfold kE; rw [if_pos h]
set_option maxRecDepth 100000 in
set_option maxHeartbeats 4000000 in
theorem kgParse_any (hCk : ∀ (a s r c f : Int) (A : Option Addr) (cc : Nat) (keys : List (List Int)) (w : World), Kd.C (Kd.slice 5 (Kd.int .u8)) w A keys.length keys → keys.length ≤ cc → keys.length < 1000000 → 0 ≤ f → f < 18446744073709551616 →
      Calls Try.prog 40 #[.agg #[.int .u64 a, .int .u64 s, .int .i64 r, .int .i64 c, .int .u64 f, .slice A keys.length cc]] w fun e w' => e = .returned (.int .i64 (gcheck r c f keys)) ∧ Below w.heap.size w w')
    (A : Option Addr) (c : Nat) (l : List Int) (w : World) (hC : Kd.C (Kd.int .u8) w A l.length l) (hc : l.length ≤ c) (h8 : In8 l) (hl : l.length ≤ 1000000) :
    Calls Try.prog 45 #[.slice A l.length c] w fun e w' => KgPost w w' e (gparse l) := by
  have hu := Try.underlying66
  by_cases hbad : l.length = 0 ∨ l.getD 0 0 ≠ 75
  case pos =>
    rw [gparse_bad hbad]
    by_cases h0 : l.length = 0
    · have HC := Aside0.mk hC
      clear hC hbad
      go_enter Try.func45, Try.ntmps45
      go_wp2
      refine wp_scope_same (by intro _ _ _ h; exact h) ?_
      go_wp2
      refine bodyPost_ret (results_ct rfl _ _ w.heap.size 66 #[.int .u64 0, .int .u64 0, .int .i64 0, .int .i64 0, .int .u64 0, .slice none 0 0] (0, 0) _ rfl (blk_new w _) Try.underlying66 rfl rfl) (by rfl) ?_
      exact ⟨_, rfl, Kd.N_nil _ _ _ _ _, (by repeat (first | exact Below.refl _ _ | apply below_alloc | apply pw_below_drewN | apply below_drew1 | (refine Below.setCell ?_ (by simp) _)))⟩
    · have h1 : l.getD 0 0 ≠ 75 := by rcases hbad with h | h; exact absurd h h0; exact h
      obtain ⟨ad, cs, rfl, hcl, hK, hcc⟩ := Kd.C_get hC (0 : Int) (0 : Int) (by omega) (by omega)
      have hcell : w.cell? ad = some (.int .u8 (l.getD 0 0)) := by
        subst hK
        have := hcc 0 _ rfl
        simpa [Addr.add] using this
      obtain ⟨x, hx⟩ : ∃ x, l.getD 0 0 = x := ⟨_, rfl⟩
      rw [hx] at h1 hcell
      have hb1 : ((l.length : Int) == 0) = false := by simpa using h0
      have hcell : (w.alloc (.cells #[.int .u64 0, .int .u64 0, .int .i64 0, .int .i64 0, .int .u64 0, .slice none 0 0] 66)).cell? ad = some (.int .u8 x) := (World.cell?_alloc_lt _ _ _ (World.block_lt_of_cell? _ _ hcell)).trans hcell
      have hb2 : (x != 75) = true := by simpa using h1
      have HC := Aside0.mk hC
      have hlp : 0 < l.length := by omega
      clear hC hbad hcc hK hcl hx
      go_enter Try.func45, Try.ntmps45
      go_wp2
      refine wp_scope_same (by intro _ _ _ h; exact h) ?_
      go_wp2
      refine bodyPost_ret (results_ct rfl _ _ w.heap.size 66 #[.int .u64 0, .int .u64 0, .int .i64 0, .int .i64 0, .int .u64 0, .slice none 0 0] (0, 0) _ rfl (blk_new w _) Try.underlying66 rfl rfl) (by rfl) ?_
      exact ⟨_, rfl, Kd.N_nil _ _ _ _ _, (by repeat (first | exact Below.refl _ _ | apply below_alloc | apply pw_below_drewN | apply below_drew1 | (refine Below.setCell ?_ (by simp) _)))⟩
  case neg =>
    have h0 : l.length ≠ 0 := fun h => hbad (Or.inl h)
    have h1 : l.getD 0 0 = 75 := Classical.byContradiction fun h => hbad (Or.inr h)
    have hcellE : ∃ ad, A = some ad ∧ w.cell? ad = some (.int .u8 75) := by
      obtain ⟨ad, cs, rfl, hcl, hK, hcc⟩ := Kd.C_get hC (0 : Int) (0 : Int) (by omega) (by omega)
      refine ⟨ad, rfl, ?_⟩
      subst hK
      have := hcc 0 _ rfl
      rw [← h1]
      simpa [Addr.add] using this
    obtain ⟨A', hcut, hread⟩ := cut_lhm (P := Try.prog) (Kd.int .u8) 27 5 Try.underlying27 info5 A c l 1 (by omega) (by omega) hc
    obtain ⟨ad, rfl, hcell⟩ := hcellE
    have htd : l.drop (1 : Int).toNat = l.drop 1 := rfl
    rw [htd] at hcut hread
    have hgp : ¬ (kE (l.drop 1) = 0) → gparse l = (0, 0, 0, 0, 0, [], kE (l.drop 1)) := gparse_no hbad
    have hgo : kE (l.drop 1) = 0 → gparse l = ((kA (l.drop 1)).2, (kB (l.drop 1)).2, (kR (l.drop 1)).2, (kC (l.drop 1)).2, (kF (l.drop 1)).2, (kK (l.drop 1)).1, 0) := gparse_ok hbad
    have htl : (l.drop 1).length ≤ 1000000 := by rw [List.length_drop]; omega
    have ht8 : In8 (l.drop 1) := h8.drop 1
    obtain ⟨t, ht⟩ : ∃ t, l.drop 1 = t := ⟨_, rfl⟩
    rw [ht] at hcut hread hgp hgo htl ht8
    have HP := Aside0.mk (And.intro hgp hgo)
    have HCT := Aside0.mk (hread w hC)
    have hcell : (w.alloc (.cells #[.int .u64 0, .int .u64 0, .int .i64 0, .int .i64 0, .int .u64 0, .slice none 0 0] 66)).cell? ad = some (.int .u8 75) := (World.cell?_alloc_lt _ _ _ (World.block_lt_of_cell? _ _ hcell)).trans hcell
    have HC := Aside0.mk hC
    have hb1 : ((l.length : Int) == 0) = false := by simpa using h0
    have hlp : 0 < l.length := by omega
    have HCK := Aside0.mk hCk
    have HT := Aside0.mk (And.intro htl ht8)
    have hs0 : RS.fine ⟨t, 0, 0⟩ := ⟨ht8, Int.le_refl _, by show (0 : Int) + (t.length : Int) ≤ _; omega⟩
    have hf1 : (kA t).1.fine := RS.number_fine hs0
    have hf2 : (kB t).1.fine := RS.number_fine hf1
    have hf3 : (kR t).1.fine := RS.up_fine hf2 _ _
    have hf4 : (kC t).1.fine := RS.up_fine hf3 _ _
    have hf5 : (kF t).1.fine := RS.number_fine hf4
    have hnb : 0 ≤ (kN t).2 ∧ (kN t).2 ≤ 64 := by have := RS.up_range hf5 64 6; exact ⟨this.1, by rcases this.2 with h | h; exact h; (show (kN t).2 ≤ 64); unfold kN; omega⟩
    obtain ⟨n, hn⟩ : ∃ n : Nat, (kN t).2 = (n : Int) := ⟨(kN t).2.toNat, by omega⟩
    have hn64 : n ≤ 64 := by omega
    have HN := Aside0.mk hn
    have HS0F := Aside0.mk hs0
    have HFR := Aside0.mk (RS.number_range hf4)
    clear hC hbad hgp hgo hread htl ht8 h8 hs0 hf1 hf2 hf3 hf4 hf5 hnb hn hCk h0 h1 htd ht
    go_enter Try.func45, Try.ntmps45
    go_wp2
    refine wp_scope_same (by intro _ _ _ h; exact h) ?_
    go_wp2_with (first | (go_at_call 25; (refine (New_any A' t.length t (w.alloc (.cells #[.int .u64 0, .int .u64 0, .int .i64 0, .int .i64 0, .int .u64 0, .slice none 0 0] 66)) _ (by repeat (first | exact Below.refl _ _ | apply below_alloc | apply pw_below_drewN | apply below_drew1 | (refine Below.setCell ?_ (by simp) _))) (Kd.C_alloc HCT.out _) (Nat.le_refl _)).mono ?_); rintro e w1 ⟨g1, rfl, hR, hb, hge⟩; have HS0 := Aside0.mk (show PSt 66 (w.alloc (.cells #[.int .u64 0, .int .u64 0, .int .i64 0, .int .i64 0, .int .u64 0, .slice none 0 0] 66)) (w1.alloc (.cells #[.int .u64 0, .int .u64 0, .int .i64 0, .int .i64 0, .int .u64 0, .slice none 0 0] 66)) g1 w1.heap.size ⟨t, 0, 0⟩ #[.int .u64 0, .int .u64 0, .int .i64 0, .int .i64 0, .int .u64 0, .slice none 0 0] from ⟨below_alloc (below_step (by repeat (first | exact Below.refl _ _ | apply below_alloc | apply pw_below_drewN | apply below_drew1 | (refine Below.setCell ?_ (by simp) _))) hb) _, RdS.alloc ⟨hR, HS0F.out⟩ _, blk_new _ _, hb.size, by obtain ⟨_, _, hbb, _⟩ := hR; exact Nat.ne_of_lt (blk_lt hbb)⟩); clear hR hb hge) | (go_at_call 27; (refine (St_number HS0.out (q := kA t) rfl).mono ?_); rintro e w2 ⟨rfl, hS, hG⟩; have HS1 := Aside0.mk hS; clear HS0 hS hG) | (go_at_call 27; (refine (St_number HS1.out (q := kB t) rfl).mono ?_); rintro e w3 ⟨rfl, hS, hG⟩; have HS2 := Aside0.mk hS; have hz0 := hS.cell 0 (v := .int .u64 0) rfl; have hz1 := hS.cell 1 (v := .int .u64 0) rfl; have hy0 := blk_frozen hS.hx 0; have hy1 := blk_frozen hS.hx 1; clear HS1 hS hG) | (go_at_call 29; (refine (St_upto ((HS2.out.set 0 (.int .u64 (kA t).2) (cs' := gbox (kA t).2 0 0 0 0 (.slice none 0 0)) rfl).set 1 (.int .u64 (kB t).2) (cs' := gbox (kA t).2 (kB t).2 0 0 0 (.slice none 0 0)) rfl) 512 (by decide) (by decide) (q := kR t) rfl).mono ?_); rintro e w4 ⟨rfl, hS, hG⟩; have HS3 := Aside0.mk hS; clear HS2 hS hG hz0 hz1 hy0 hy1) | (go_at_call 29; (refine (St_upto HS3.out 512 (by decide) (by decide) (q := kC t) rfl).mono ?_); rintro e w5 ⟨rfl, hS, hG⟩; have HS4 := Aside0.mk hS; have hz2 := hS.cell 2 (v := .int .i64 0) rfl; have hz3 := hS.cell 3 (v := .int .i64 0) rfl; have hy2 := blk_frozen hS.hx 2; have hy3 := blk_frozen hS.hx 3; clear HS3 hS hG) | (go_at_call 27; (refine (St_number ((HS4.out.set 2 (.int .i64 (kR t).2) (cs' := gbox (kA t).2 (kB t).2 (kR t).2 0 0 (.slice none 0 0)) rfl).set 3 (.int .i64 (kC t).2) (cs' := gbox (kA t).2 (kB t).2 (kR t).2 (kC t).2 0 (.slice none 0 0)) rfl) (q := kF t) rfl).mono ?_); rintro e w6 ⟨rfl, hS, hG⟩; have HS5 := Aside0.mk hS; have hz4 := hS.cell 4 (v := .int .u64 0) rfl; have hy4 := blk_frozen hS.hx 4; clear HS4 hS hG hz2 hz3 hy2 hy3) | (go_at_call 30; (refine (St_some (HS5.out.set 4 (.int .u64 (kF t).2) (cs' := gbox (kA t).2 (kB t).2 (kR t).2 (kC t).2 (kF t).2 (.slice none 0 0)) rfl) 64 (by decide) (by decide) (q := kN t) rfl).mono ?_); rintro e w7 ⟨rfl, hS, hG⟩; rw [HN.out]; have HS6 := Aside0.mk hS; clear HS5 hS hG hz4 hy4))
    refine wp_label ?_
    obtain ⟨gg, hgg⟩ : ∃ g, g = w1.heap.size := ⟨_, rfl⟩
    rw [← hgg] at HS6 ⊢
    clear hgg
    go_wp2
    go_loopg [44] (n + 1) (fun kq v44 w' => ∃ (i : Nat) (keys : List (List Int)) (s : RS) (v : Value), v44 = .int .i64 i ∧ i ≤ n ∧ Aside0 (kq = n + 1 - i) ∧ Aside0 (gkeys (n - i) s keys = kK t) ∧ Aside0 (keys.length = i ∧ s.l.length ≤ 1000000) ∧ Aside0 (PSt 66 (w.alloc (.cells #[.int .u64 0, .int .u64 0, .int .i64 0, .int .i64 0, .int .u64 0, .slice none 0 0] 66)) w' g1 gg s (gbox (kA t).2 (kB t).2 (kR t).2 (kC t).2 (kF t).2 v)) ∧ Aside0 (Kd.N (Kd.slice 5 (Kd.int .u8)) 27 w' (w.alloc (.cells #[.int .u64 0, .int .u64 0, .int .i64 0, .int .i64 0, .int .u64 0, .slice none 0 0] 66)).heap.size (fun k => (w.alloc (.cells #[.int .u64 0, .int .u64 0, .int .i64 0, .int .i64 0, .int .u64 0, .slice none 0 0] 66)).heap.size ≤ k ∧ k ≠ g1 ∧ k ≠ gg) v keys))
    case atStart => exact ⟨0, [], (kN t).1, .slice none 0 0, rfl, Nat.zero_le _, ⟨rfl⟩, ⟨by unfold kK; rw [HN.out]; rfl⟩, ⟨rfl, Nat.le_trans (kN_len t) HT.out.1⟩, HS6, ⟨Kd.N_nil _ _ _ _ _⟩⟩
    case round =>
      clear HS6
      obtain ⟨i, keys, s, v, rfl, hi, HK, HG, HKI, HS, HNK⟩ := hrel
      by_cases hlt : i < n
      · by_cases he : (s.up 8 5).1.e = 0
        · by_cases hk0 : (s.up 8 5).2 = 0
          · have hkb : ((s.up 8 5).2 == 0) = true := by simpa using hk0
            have heb : ((s.up 8 5).1.e == 0) = true := by simpa using he
            have HU := Aside0.mk (kU_fail he hk0)
            clear he hk0
            go_wp2_with (first | (go_at_call 29; (refine (St_upto HS.out 8 (by decide) (by decide) (q := s.up 8 5) rfl).mono ?_); rintro e w8 ⟨rfl, hS, hG⟩; have HSA := Aside0.mk hS; have HNA := Aside0.mk (Kd.N_grown HNK.out hG (fun k hk e => hk.2.1 (by injection e))); clear HS HNK hS hG) | (go_at_call 35; (refine (HSA.out.hr.err).mono ?_); rintro e w' ⟨rfl, rfl⟩) | (go_at_call 33; (refine (St_fail HSA.out 3).mono ?_); rintro e w9 ⟨rfl, hS, hG⟩; have HSU := Aside0.mk (show PSt 66 (w.alloc (.cells #[.int .u64 0, .int .u64 0, .int .i64 0, .int .i64 0, .int .u64 0, .slice none 0 0] 66)) w9 g1 gg (kU s) (gbox (kA t).2 (kB t).2 (kR t).2 (kC t).2 (kF t).2 v) by rw [HU.out]; exact hS); have HNU := Aside0.mk (Kd.N_grown HNA.out hG (fun k hk e => hk.2.1 (by injection e))); clear HSA HNA hS hG))
            refine start_ (n := 9) (S := fun w' => w'.cell? ⟨gg, 5, none⟩ = some v) (ds := [8]) #[false, false, false, false, false, false, false, false, false] (by kernel_rfl) rfl rfl ((HSU.out.cell 5 rfl)) (fun hHeld => ?_)
            refine pure_ (i := 0) (N := some 57) (v := ?_) (a' := ?_) #[true, false, false, false, false, false, false, false, false] rfl rfl (by kernel_rfl) (fun _ _ _ h => h) (Or.inl ⟨by rfl, ?_⟩) ?_ ?_
            rotate_left
            · intro w'
              go_simp
              with_reducible rfl
            rotate_left
            · simp only [Act.put, List.setIfInBounds_toArray, List.set_cons_zero, List.set_cons_succ, i64_w, i32_w]
              rfl
            refine pure_ (i := 2) (N := some 59) (v := ?_) (a' := ?_) #[true, false, true, false, false, false, false, false, false] rfl rfl (by kernel_rfl) (fun _ _ _ h => h) (Or.inl ⟨by rfl, ?_⟩) ?_ ?_
            rotate_left
            · intro w'
              go_simp
              with_reducible rfl
            rotate_left
            · simp only [Act.put, List.setIfInBounds_toArray, List.set_cons_zero, List.set_cons_succ, i64_w, i32_w]
              rfl
            refine pure_ (i := 3) (N := some 60) (v := ?_) (a' := ?_) #[true, false, true, true, false, false, false, false, false] rfl rfl (by kernel_rfl) (fun _ _ _ h => h) (Or.inl ⟨by rfl, ?_⟩) ?_ ?_
            rotate_left
            · intro w'
              go_simp
              with_reducible rfl
            rotate_left
            · simp only [Act.put, List.setIfInBounds_toArray, List.set_cons_zero, List.set_cons_succ, i64_w, i32_w]
              rfl
            refine take_ (i := 1) (N := some 58) (v := ?_) (a' := ?_) #[true, true, true, true, false, false, false, false, false] rfl rfl (by kernel_rfl) (fun _ _ _ h => h) (Or.inl ⟨by rfl, ?_⟩) hHeld ?_ ?_
            rotate_left
            · intro w' s0
              go_simp
              with_reducible rfl
            rotate_left
            · simp only [Act.put, List.setIfInBounds_toArray, List.set_cons_zero, List.set_cons_succ, i64_w, i32_w]
              rfl
            refine one_ (i := 4) (N := some 61) #[true, true, true, true, true, false, false, false, false] rfl rfl (by kernel_rfl) (by decide) (fun K hK => ?_)
            refine goes_ Try.func32 (by kernel_rfl) rfl #[.pointer (some ⟨g1, 0, none⟩), .int .i64 (s.up 8 5).2] (by rfl) rfl rfl (by first | (simp only [List.map_toArray, List.map_cons, List.map_nil]; done) | (simp only [List.map_toArray, List.map_cons, List.map_nil]; rfl)) ?_
            with_reducible refine (St_take (HSU.out.below (by repeat (first | exact Below.refl _ _ | apply below_alloc | apply pw_below_drewN | apply below_drew1 | (refine Below.setCell ?_ (by simp) _)))) (s.up 8 5).2 (by have := HKI.out.2; have := kU_len s; omega)).mono ?_
            rintro e w2 ⟨v2, rfl, hR, hS, hG⟩
            refine ⟨_, rfl, ?_⟩
            obtain ⟨A2, c2, rfl⟩ := Kd.R_slice hR
            have HKK := Aside0.mk (show Kd.FK (Kd.slice 5 (Kd.int .u8)) w2 (fun k => w9.heap.size ≤ k) (kKey s).2 [.slice A2 (kKey s).2.length c2] from Kd.FK_slice_mk (Kd.R_reads' hR).2.1 (Kd.R_F (Kd.R_mono (Kd.R_bound hR) (fun k hk => Nat.le_trans (below_size (by repeat (first | exact Below.refl _ _ | apply below_alloc | apply pw_below_drewN | apply below_drew1 | (refine Below.setCell ?_ (by simp) _)))) hk.2.1))))
            have HS2 := Aside0.mk hS
            have HN2 := Aside0.mk (Kd.N_grown (Kd.N_below HNU.out (by repeat (first | exact Below.refl _ _ | apply below_alloc | apply pw_below_drewN | apply below_drew1 | (refine Below.setCell ?_ (by simp) _)))) hG (fun k hk e => hk.2.1 (by injection e)))
            have hk2 : w2.cell? ⟨gg, 5, none⟩ = some v := hS.cell 5 rfl
            clear hR hS hG
            refine hK.out _ _ (hk2) (fun hHeld => ?_)
            clear hK K
            refine norm_ (a' := ?_) ?_ ?_
            rotate_left
            · show Act.put _ (some 61) _ = _
              simp only [Act.put, List.setIfInBounds_toArray, List.set_cons_zero, List.set_cons_succ, i64_w, i32_w]
              rfl
            refine one_ (i := 5) (N := some 62) #[true, true, true, true, true, true, false, false, false] rfl rfl (by kernel_rfl) (by decide) (fun K hK => ?_)
            refine value_ (w1 := ?_) (v := ?_) (by rfl) rfl ?_ ?_
            rotate_left 2
            · go_simp
              constructor
              · rfl
              · rfl
            refine hK.out _ _ (((blk_cell (blk_alloc HS2.out.hx _) 5).trans rfl)) (fun hHeld => ?_)
            clear hK K
            refine norm_ (a' := ?_) ?_ ?_
            rotate_left
            · show Act.put _ (some 62) _ = _
              simp only [Act.put, List.setIfInBounds_toArray, List.set_cons_zero, List.set_cons_succ, i64_w, i32_w]
              rfl
            refine one_ (i := 6) (N := some 63) #[true, true, true, true, true, true, true, false, false] rfl rfl (by kernel_rfl) (by decide) (fun K hK => ?_)
            refine Kd.N_append_step (Kd.slice 5 (Kd.int .u8)) (w0 := (w.alloc (.cells #[.int .u64 0, .int .u64 0, .int .i64 0, .int .i64 0, .int .u64 0, .slice none 0 0] 66))) (w.alloc (.cells #[.int .u64 0, .int .u64 0, .int .i64 0, .int .i64 0, .int .u64 0, .slice none 0 0] 66)).heap.size (by rfl) (.tmp 58) (.tmp 62) 64 27 (.slice none 0 0) 24 (by rfl) Try.underlying64 kgInfo rfl (by decide) (by omega) v keys (kKey s).2 [.slice A2 (kKey s).2.length c2] (fun k => (w.alloc (.cells #[.int .u64 0, .int .u64 0, .int .i64 0, .int .i64 0, .int .u64 0, .slice none 0 0] 66)).heap.size ≤ k ∧ k ≠ g1 ∧ k ≠ gg) (fun k => w9.heap.size ≤ k) (by rfl) (by rfl) (Kd.FK_below HKK.out (by repeat (first | exact Below.refl _ _ | apply below_alloc | apply pw_below_drewN | apply below_drew1 | (refine Below.setCell ?_ (by simp) _)))) ?hokp ?hfresh (Kd.N_below HN2.out (by repeat (first | exact Below.refl _ _ | apply below_alloc | apply pw_below_drewN | apply below_drew1 | (refine Below.setCell ?_ (by simp) _)))) (HS2.out.below (by repeat (first | exact Below.refl _ _ | apply below_alloc | apply pw_below_drewN | apply below_drew1 | (refine Below.setCell ?_ (by simp) _)))).hb (HS2.out.below (by repeat (first | exact Below.refl _ _ | apply below_alloc | apply pw_below_drewN | apply below_drew1 | (refine Below.setCell ?_ (by simp) _)))).hb.size ?hlen ?_
            case hokp => have q1 := HSU.out.hr.lt; have q2 := blk_lt HSU.out.hx; have q3 := HSU.out.hb.size; intro k hk; exact ⟨⟨by omega, by omega, by omega⟩, fun e => by have := Kd.N_lt HNU.out k e.symm; omega⟩
            case hfresh => have q1 := (HS2.out.below (by repeat (first | exact Below.refl _ _ | apply below_alloc | apply pw_below_drewN | apply below_drew1 | (refine Below.setCell ?_ (by simp) _)))).hr.lt; have q2 := blk_lt (HS2.out.below (by repeat (first | exact Below.refl _ _ | apply below_alloc | apply pw_below_drewN | apply below_drew1 | (refine Below.setCell ?_ (by simp) _)))).hx; have q3 := (HS2.out.below (by repeat (first | exact Below.refl _ _ | apply below_alloc | apply pw_below_drewN | apply below_drew1 | (refine Below.setCell ?_ (by simp) _)))).hb.size; intro k hk; exact ⟨by omega, by omega, by omega⟩
            case hlen => have := HKI.out.1; omega
            intro v4 w4 ho hb hg4 hat
            obtain ⟨A4, c4, e4⟩ := Kd.N_slice ho
            generalize (keys ++ [(kKey s).2]).length = n4 at e4
            subst e4
            have HN4 := Aside0.mk ho
            have HS4 := Aside0.mk ((HS2.out.below (by repeat (first | exact Below.refl _ _ | apply below_alloc | apply pw_below_drewN | apply below_drew1 | (refine Below.setCell ?_ (by simp) _)))).grown hg4 (fun k hk => HN2.out.1 k hk))
            have hz5 : w4.cell? ⟨gg, 5, none⟩ = some v := HS4.out.cell 5 rfl
            have hy5 := blk_frozen HS4.out.hx 5
            clear ho hb hg4 hat
            refine hK.out _ _ (hz5) (fun hHeld => ?_)
            clear hK K
            refine norm_ (a' := ?_) ?_ ?_
            rotate_left
            · show Act.put _ (some 63) _ = _
              simp only [Act.put, List.setIfInBounds_toArray, List.set_cons_zero, List.set_cons_succ, i64_w, i32_w]
              rfl
            refine pure_ (i := 7) (N := some 64) (v := ?_) (a' := ?_) #[true, true, true, true, true, true, true, true, false] rfl rfl (by kernel_rfl) (fun _ _ _ h => h) (Or.inl ⟨by rfl, ?_⟩) ?_ ?_
            rotate_left
            · intro w'
              go_simp
              with_reducible rfl
            rotate_left
            · simp only [Act.put, List.setIfInBounds_toArray, List.set_cons_zero, List.set_cons_succ, i64_w, i32_w]
              rfl
            refine last_ (i := 8) (N := none) #[true, true, true, true, true, true, true, true, true] rfl rfl (by kernel_rfl) (by decide) (fun K hK => ?_)
            refine skip_ (w1 := ?_) (by rfl) rfl ?_ ?_
            rotate_left
            · go_simp
              rfl
            refine hK.out _ _ ?_
            clear hK K
            refine done_ (by kernel_rfl) ?_
            have HS5 := Aside0.mk (show PSt 66 (w.alloc (.cells #[.int .u64 0, .int .u64 0, .int .i64 0, .int .i64 0, .int .u64 0, .slice none 0 0] 66)) (w4.setCell ⟨gg, 5, none⟩ (.slice A4 n4 c4)) g1 gg (kKey s).1 (gbox (kA t).2 (kB t).2 (kR t).2 (kC t).2 (kF t).2 (.slice A4 n4 c4)) from HS4.out.set 5 _ rfl)
            have HN5 := Aside0.mk (Kd.N_far HN4.out (p := ⟨gg, 5, none⟩) (fun k hk => hk.2.2) (.slice A4 n4 c4))
            clear HS2 HN2 HKK hk2 HN4 HS4 hz5 hy5
            by_cases hee : (kKey s).1.e = 0
            · have heb2 : ((kKey s).1.e != 0) = false := by simpa using hee
              have HEE := Aside0.mk hee
              clear hee
              go_wp2_with (go_at_call 35; (refine (HS5.out.hr.err).mono ?_); rintro e w' ⟨rfl, rfl⟩)
              go_roundg (n + 1 - (i + 1))
              case measure => have := HK.out; omega
              case rel => exact ⟨i + 1, keys ++ [(kKey s).2], (kKey s).1, .slice A4 n4 c4, by go_num, by omega, ⟨rfl⟩, ⟨by have hh := HG.out; rw [show n - i = (n - (i + 1)) + 1 by omega] at hh; unfold gkeys at hh; rwa [if_pos HEE.out] at hh⟩, ⟨by rw [List.length_append, HKI.out.1]; rfl, Nat.le_trans (kKey_len s) HKI.out.2⟩, HS5, HN5⟩
            · have heb2 : ((kKey s).1.e != 0) = true := by simpa using hee
              have hdo : (kKey s).1.done = (kKey s).1.e := by unfold RS.done; rw [if_neg hee]
              have hd1 : ((kKey s).1.done == 0) = false := by rw [hdo]; simpa using hee
              have hd2 : ((kKey s).1.done != 0) = true := by rw [hdo]; simpa using hee
              have HDO := Aside0.mk hdo
              have HEE := Aside0.mk hee
              clear hee hdo
              have hzr0 := (blk_cell (kg_res (HS5.out.hb)) 0).trans rfl; have hyr0 := blk_frozen (kg_res (HS5.out.hb)) 0; have hzr1 := (blk_cell (kg_res (HS5.out.hb)) 1).trans rfl; have hyr1 := blk_frozen (kg_res (HS5.out.hb)) 1; have hzr2 := (blk_cell (kg_res (HS5.out.hb)) 2).trans rfl; have hyr2 := blk_frozen (kg_res (HS5.out.hb)) 2; have hzr3 := (blk_cell (kg_res (HS5.out.hb)) 3).trans rfl; have hyr3 := blk_frozen (kg_res (HS5.out.hb)) 3; have hzr4 := (blk_cell (kg_res (HS5.out.hb)) 4).trans rfl; have hyr4 := blk_frozen (kg_res (HS5.out.hb)) 4; have hzr5 := (blk_cell (kg_res (HS5.out.hb)) 5).trans rfl; have hyr5 := blk_frozen (kg_res (HS5.out.hb)) 5
              go_wp2_with (first | (go_at_call 35; (refine (HS5.out.hr.err).mono ?_); rintro e w' ⟨rfl, rfl⟩) | (go_at_call 37; (refine (Done_any _ _ g1 (kKey s).1 HS5.out.hr).mono ?_); rintro e w' ⟨rfl, rfl⟩))
              have hKK : (kK t).2 = (kKey s).1 := by have hh := HG.out; rw [show n - i = (n - (i + 1)) + 1 by omega] at hh; unfold gkeys at hh; rw [if_neg HEE.out] at hh; rw [← hh]
              refine bodyPost_ret (results_ct rfl _ _ w.heap.size 66 #[.int .u64 0, .int .u64 0, .int .i64 0, .int .i64 0, .int .u64 0, .slice none 0 0] (0, 0) _ rfl (kgOut_blk (HS5.out.hb) 0 0 0 0 0 (.slice none 0 0)) Try.underlying66 rfl rfl) (by rfl) ?_
              have hkE : kE t = (kKey s).1.done := by rw [kE_no (by rw [hKK, HDO.out]; exact HEE.out), hKK]
              have hg := HP.out.1 (by rw [hkE]; exact (by rw [HDO.out]; exact HEE.out))
              rw [hg, hkE]
              exact ⟨_, rfl, Kd.N_nil _ _ _ _ _, kgOut_bel (HS5.out.hb) 0 0 0 0 0 (.slice none 0 0)⟩
          · have heb : ((s.up 8 5).1.e == 0) = true := by simpa using he
            have hkb : ((s.up 8 5).2 == 0) = false := by simpa using hk0
            have HU := Aside0.mk (kU_ok (s := s) (fun h => hk0 h.2))
            clear he hk0
            go_wp2_with (first | (go_at_call 29; (refine (St_upto HS.out 8 (by decide) (by decide) (q := s.up 8 5) rfl).mono ?_); rintro e w9 ⟨rfl, hS, hG⟩; have HSU := Aside0.mk (show PSt 66 (w.alloc (.cells #[.int .u64 0, .int .u64 0, .int .i64 0, .int .i64 0, .int .u64 0, .slice none 0 0] 66)) w9 g1 gg (kU s) (gbox (kA t).2 (kB t).2 (kR t).2 (kC t).2 (kF t).2 v) by rw [HU.out]; exact hS); have HNU := Aside0.mk (Kd.N_grown HNK.out hG (fun k hk e => hk.2.1 (by injection e))); have HER := Aside0.mk hS.hr; clear HS HNK hS hG) | (go_at_call 35; (refine (HER.out.err).mono ?_); rintro e w9 ⟨rfl, rfl⟩))
            refine start_ (n := 9) (S := fun w' => w'.cell? ⟨gg, 5, none⟩ = some v) (ds := [8]) #[false, false, false, false, false, false, false, false, false] (by kernel_rfl) rfl rfl ((HSU.out.cell 5 rfl)) (fun hHeld => ?_)
            refine pure_ (i := 0) (N := some 57) (v := ?_) (a' := ?_) #[true, false, false, false, false, false, false, false, false] rfl rfl (by kernel_rfl) (fun _ _ _ h => h) (Or.inl ⟨by rfl, ?_⟩) ?_ ?_
            rotate_left
            · intro w'
              go_simp
              with_reducible rfl
            rotate_left
            · simp only [Act.put, List.setIfInBounds_toArray, List.set_cons_zero, List.set_cons_succ, i64_w, i32_w]
              rfl
            refine pure_ (i := 2) (N := some 59) (v := ?_) (a' := ?_) #[true, false, true, false, false, false, false, false, false] rfl rfl (by kernel_rfl) (fun _ _ _ h => h) (Or.inl ⟨by rfl, ?_⟩) ?_ ?_
            rotate_left
            · intro w'
              go_simp
              with_reducible rfl
            rotate_left
            · simp only [Act.put, List.setIfInBounds_toArray, List.set_cons_zero, List.set_cons_succ, i64_w, i32_w]
              rfl
            refine pure_ (i := 3) (N := some 60) (v := ?_) (a' := ?_) #[true, false, true, true, false, false, false, false, false] rfl rfl (by kernel_rfl) (fun _ _ _ h => h) (Or.inl ⟨by rfl, ?_⟩) ?_ ?_
            rotate_left
            · intro w'
              go_simp
              with_reducible rfl
            rotate_left
            · simp only [Act.put, List.setIfInBounds_toArray, List.set_cons_zero, List.set_cons_succ, i64_w, i32_w]
              rfl
            refine take_ (i := 1) (N := some 58) (v := ?_) (a' := ?_) #[true, true, true, true, false, false, false, false, false] rfl rfl (by kernel_rfl) (fun _ _ _ h => h) (Or.inl ⟨by rfl, ?_⟩) hHeld ?_ ?_
            rotate_left
            · intro w' s0
              go_simp
              with_reducible rfl
            rotate_left
            · simp only [Act.put, List.setIfInBounds_toArray, List.set_cons_zero, List.set_cons_succ, i64_w, i32_w]
              rfl
            refine one_ (i := 4) (N := some 61) #[true, true, true, true, true, false, false, false, false] rfl rfl (by kernel_rfl) (by decide) (fun K hK => ?_)
            refine goes_ Try.func32 (by kernel_rfl) rfl #[.pointer (some ⟨g1, 0, none⟩), .int .i64 (s.up 8 5).2] (by rfl) rfl rfl (by first | (simp only [List.map_toArray, List.map_cons, List.map_nil]; done) | (simp only [List.map_toArray, List.map_cons, List.map_nil]; rfl)) ?_
            with_reducible refine (St_take (HSU.out.below (by repeat (first | exact Below.refl _ _ | apply below_alloc | apply pw_below_drewN | apply below_drew1 | (refine Below.setCell ?_ (by simp) _)))) (s.up 8 5).2 (by have := HKI.out.2; have := kU_len s; omega)).mono ?_
            rintro e w2 ⟨v2, rfl, hR, hS, hG⟩
            refine ⟨_, rfl, ?_⟩
            obtain ⟨A2, c2, rfl⟩ := Kd.R_slice hR
            have HKK := Aside0.mk (show Kd.FK (Kd.slice 5 (Kd.int .u8)) w2 (fun k => w9.heap.size ≤ k) (kKey s).2 [.slice A2 (kKey s).2.length c2] from Kd.FK_slice_mk (Kd.R_reads' hR).2.1 (Kd.R_F (Kd.R_mono (Kd.R_bound hR) (fun k hk => Nat.le_trans (below_size (by repeat (first | exact Below.refl _ _ | apply below_alloc | apply pw_below_drewN | apply below_drew1 | (refine Below.setCell ?_ (by simp) _)))) hk.2.1))))
            have HS2 := Aside0.mk hS
            have HN2 := Aside0.mk (Kd.N_grown (Kd.N_below HNU.out (by repeat (first | exact Below.refl _ _ | apply below_alloc | apply pw_below_drewN | apply below_drew1 | (refine Below.setCell ?_ (by simp) _)))) hG (fun k hk e => hk.2.1 (by injection e)))
            have hk2 : w2.cell? ⟨gg, 5, none⟩ = some v := hS.cell 5 rfl
            clear hR hS hG
            refine hK.out _ _ (hk2) (fun hHeld => ?_)
            clear hK K
            refine norm_ (a' := ?_) ?_ ?_
            rotate_left
            · show Act.put _ (some 61) _ = _
              simp only [Act.put, List.setIfInBounds_toArray, List.set_cons_zero, List.set_cons_succ, i64_w, i32_w]
              rfl
            refine one_ (i := 5) (N := some 62) #[true, true, true, true, true, true, false, false, false] rfl rfl (by kernel_rfl) (by decide) (fun K hK => ?_)
            refine value_ (w1 := ?_) (v := ?_) (by rfl) rfl ?_ ?_
            rotate_left 2
            · go_simp
              constructor
              · rfl
              · rfl
            refine hK.out _ _ (((blk_cell (blk_alloc HS2.out.hx _) 5).trans rfl)) (fun hHeld => ?_)
            clear hK K
            refine norm_ (a' := ?_) ?_ ?_
            rotate_left
            · show Act.put _ (some 62) _ = _
              simp only [Act.put, List.setIfInBounds_toArray, List.set_cons_zero, List.set_cons_succ, i64_w, i32_w]
              rfl
            refine one_ (i := 6) (N := some 63) #[true, true, true, true, true, true, true, false, false] rfl rfl (by kernel_rfl) (by decide) (fun K hK => ?_)
            refine Kd.N_append_step (Kd.slice 5 (Kd.int .u8)) (w0 := (w.alloc (.cells #[.int .u64 0, .int .u64 0, .int .i64 0, .int .i64 0, .int .u64 0, .slice none 0 0] 66))) (w.alloc (.cells #[.int .u64 0, .int .u64 0, .int .i64 0, .int .i64 0, .int .u64 0, .slice none 0 0] 66)).heap.size (by rfl) (.tmp 58) (.tmp 62) 64 27 (.slice none 0 0) 24 (by rfl) Try.underlying64 kgInfo rfl (by decide) (by omega) v keys (kKey s).2 [.slice A2 (kKey s).2.length c2] (fun k => (w.alloc (.cells #[.int .u64 0, .int .u64 0, .int .i64 0, .int .i64 0, .int .u64 0, .slice none 0 0] 66)).heap.size ≤ k ∧ k ≠ g1 ∧ k ≠ gg) (fun k => w9.heap.size ≤ k) (by rfl) (by rfl) (Kd.FK_below HKK.out (by repeat (first | exact Below.refl _ _ | apply below_alloc | apply pw_below_drewN | apply below_drew1 | (refine Below.setCell ?_ (by simp) _)))) ?hokp ?hfresh (Kd.N_below HN2.out (by repeat (first | exact Below.refl _ _ | apply below_alloc | apply pw_below_drewN | apply below_drew1 | (refine Below.setCell ?_ (by simp) _)))) (HS2.out.below (by repeat (first | exact Below.refl _ _ | apply below_alloc | apply pw_below_drewN | apply below_drew1 | (refine Below.setCell ?_ (by simp) _)))).hb (HS2.out.below (by repeat (first | exact Below.refl _ _ | apply below_alloc | apply pw_below_drewN | apply below_drew1 | (refine Below.setCell ?_ (by simp) _)))).hb.size ?hlen ?_
            case hokp => have q1 := HSU.out.hr.lt; have q2 := blk_lt HSU.out.hx; have q3 := HSU.out.hb.size; intro k hk; exact ⟨⟨by omega, by omega, by omega⟩, fun e => by have := Kd.N_lt HNU.out k e.symm; omega⟩
            case hfresh => have q1 := (HS2.out.below (by repeat (first | exact Below.refl _ _ | apply below_alloc | apply pw_below_drewN | apply below_drew1 | (refine Below.setCell ?_ (by simp) _)))).hr.lt; have q2 := blk_lt (HS2.out.below (by repeat (first | exact Below.refl _ _ | apply below_alloc | apply pw_below_drewN | apply below_drew1 | (refine Below.setCell ?_ (by simp) _)))).hx; have q3 := (HS2.out.below (by repeat (first | exact Below.refl _ _ | apply below_alloc | apply pw_below_drewN | apply below_drew1 | (refine Below.setCell ?_ (by simp) _)))).hb.size; intro k hk; exact ⟨by omega, by omega, by omega⟩
            case hlen => have := HKI.out.1; omega
            intro v4 w4 ho hb hg4 hat
            obtain ⟨A4, c4, e4⟩ := Kd.N_slice ho
            generalize (keys ++ [(kKey s).2]).length = n4 at e4
            subst e4
            have HN4 := Aside0.mk ho
            have HS4 := Aside0.mk ((HS2.out.below (by repeat (first | exact Below.refl _ _ | apply below_alloc | apply pw_below_drewN | apply below_drew1 | (refine Below.setCell ?_ (by simp) _)))).grown hg4 (fun k hk => HN2.out.1 k hk))
            have hz5 : w4.cell? ⟨gg, 5, none⟩ = some v := HS4.out.cell 5 rfl
            have hy5 := blk_frozen HS4.out.hx 5
            clear ho hb hg4 hat
            refine hK.out _ _ (hz5) (fun hHeld => ?_)
            clear hK K
            refine norm_ (a' := ?_) ?_ ?_
            rotate_left
            · show Act.put _ (some 63) _ = _
              simp only [Act.put, List.setIfInBounds_toArray, List.set_cons_zero, List.set_cons_succ, i64_w, i32_w]
              rfl
            refine pure_ (i := 7) (N := some 64) (v := ?_) (a' := ?_) #[true, true, true, true, true, true, true, true, false] rfl rfl (by kernel_rfl) (fun _ _ _ h => h) (Or.inl ⟨by rfl, ?_⟩) ?_ ?_
            rotate_left
            · intro w'
              go_simp
              with_reducible rfl
            rotate_left
            · simp only [Act.put, List.setIfInBounds_toArray, List.set_cons_zero, List.set_cons_succ, i64_w, i32_w]
              rfl
            refine last_ (i := 8) (N := none) #[true, true, true, true, true, true, true, true, true] rfl rfl (by kernel_rfl) (by decide) (fun K hK => ?_)
            refine skip_ (w1 := ?_) (by rfl) rfl ?_ ?_
            rotate_left
            · go_simp
              rfl
            refine hK.out _ _ ?_
            clear hK K
            refine done_ (by kernel_rfl) ?_
            have HS5 := Aside0.mk (show PSt 66 (w.alloc (.cells #[.int .u64 0, .int .u64 0, .int .i64 0, .int .i64 0, .int .u64 0, .slice none 0 0] 66)) (w4.setCell ⟨gg, 5, none⟩ (.slice A4 n4 c4)) g1 gg (kKey s).1 (gbox (kA t).2 (kB t).2 (kR t).2 (kC t).2 (kF t).2 (.slice A4 n4 c4)) from HS4.out.set 5 _ rfl)
            have HN5 := Aside0.mk (Kd.N_far HN4.out (p := ⟨gg, 5, none⟩) (fun k hk => hk.2.2) (.slice A4 n4 c4))
            clear HS2 HN2 HKK hk2 HN4 HS4 hz5 hy5
            by_cases hee : (kKey s).1.e = 0
            · have heb2 : ((kKey s).1.e != 0) = false := by simpa using hee
              have HEE := Aside0.mk hee
              clear hee
              go_wp2_with (go_at_call 35; (refine (HS5.out.hr.err).mono ?_); rintro e w' ⟨rfl, rfl⟩)
              go_roundg (n + 1 - (i + 1))
              case measure => have := HK.out; omega
              case rel => exact ⟨i + 1, keys ++ [(kKey s).2], (kKey s).1, .slice A4 n4 c4, by go_num, by omega, ⟨rfl⟩, ⟨by have hh := HG.out; rw [show n - i = (n - (i + 1)) + 1 by omega] at hh; unfold gkeys at hh; rwa [if_pos HEE.out] at hh⟩, ⟨by rw [List.length_append, HKI.out.1]; rfl, Nat.le_trans (kKey_len s) HKI.out.2⟩, HS5, HN5⟩
            · have heb2 : ((kKey s).1.e != 0) = true := by simpa using hee
              have hdo : (kKey s).1.done = (kKey s).1.e := by unfold RS.done; rw [if_neg hee]
              have hd1 : ((kKey s).1.done == 0) = false := by rw [hdo]; simpa using hee
              have hd2 : ((kKey s).1.done != 0) = true := by rw [hdo]; simpa using hee
              have HDO := Aside0.mk hdo
              have HEE := Aside0.mk hee
              clear hee hdo
              have hzr0 := (blk_cell (kg_res (HS5.out.hb)) 0).trans rfl; have hyr0 := blk_frozen (kg_res (HS5.out.hb)) 0; have hzr1 := (blk_cell (kg_res (HS5.out.hb)) 1).trans rfl; have hyr1 := blk_frozen (kg_res (HS5.out.hb)) 1; have hzr2 := (blk_cell (kg_res (HS5.out.hb)) 2).trans rfl; have hyr2 := blk_frozen (kg_res (HS5.out.hb)) 2; have hzr3 := (blk_cell (kg_res (HS5.out.hb)) 3).trans rfl; have hyr3 := blk_frozen (kg_res (HS5.out.hb)) 3; have hzr4 := (blk_cell (kg_res (HS5.out.hb)) 4).trans rfl; have hyr4 := blk_frozen (kg_res (HS5.out.hb)) 4; have hzr5 := (blk_cell (kg_res (HS5.out.hb)) 5).trans rfl; have hyr5 := blk_frozen (kg_res (HS5.out.hb)) 5
              go_wp2_with (first | (go_at_call 35; (refine (HS5.out.hr.err).mono ?_); rintro e w' ⟨rfl, rfl⟩) | (go_at_call 37; (refine (Done_any _ _ g1 (kKey s).1 HS5.out.hr).mono ?_); rintro e w' ⟨rfl, rfl⟩))
              have hKK : (kK t).2 = (kKey s).1 := by have hh := HG.out; rw [show n - i = (n - (i + 1)) + 1 by omega] at hh; unfold gkeys at hh; rw [if_neg HEE.out] at hh; rw [← hh]
              refine bodyPost_ret (results_ct rfl _ _ w.heap.size 66 #[.int .u64 0, .int .u64 0, .int .i64 0, .int .i64 0, .int .u64 0, .slice none 0 0] (0, 0) _ rfl (kgOut_blk (HS5.out.hb) 0 0 0 0 0 (.slice none 0 0)) Try.underlying66 rfl rfl) (by rfl) ?_
              have hkE : kE t = (kKey s).1.done := by rw [kE_no (by rw [hKK, HDO.out]; exact HEE.out), hKK]
              have hg := HP.out.1 (by rw [hkE]; exact (by rw [HDO.out]; exact HEE.out))
              rw [hg, hkE]
              exact ⟨_, rfl, Kd.N_nil _ _ _ _ _, kgOut_bel (HS5.out.hb) 0 0 0 0 0 (.slice none 0 0)⟩
        · have heb : ((s.up 8 5).1.e == 0) = false := by simpa using he
          have HU := Aside0.mk (kU_ok (s := s) (fun h => he h.1))
          clear he
          go_wp2_with (first | (go_at_call 29; (refine (St_upto HS.out 8 (by decide) (by decide) (q := s.up 8 5) rfl).mono ?_); rintro e w9 ⟨rfl, hS, hG⟩; have HSU := Aside0.mk (show PSt 66 (w.alloc (.cells #[.int .u64 0, .int .u64 0, .int .i64 0, .int .i64 0, .int .u64 0, .slice none 0 0] 66)) w9 g1 gg (kU s) (gbox (kA t).2 (kB t).2 (kR t).2 (kC t).2 (kF t).2 v) by rw [HU.out]; exact hS); have HNU := Aside0.mk (Kd.N_grown HNK.out hG (fun k hk e => hk.2.1 (by injection e))); have HER := Aside0.mk hS.hr; clear HS HNK hS hG) | (go_at_call 35; (refine (HER.out.err).mono ?_); rintro e w9 ⟨rfl, rfl⟩))
          refine start_ (n := 9) (S := fun w' => w'.cell? ⟨gg, 5, none⟩ = some v) (ds := [8]) #[false, false, false, false, false, false, false, false, false] (by kernel_rfl) rfl rfl ((HSU.out.cell 5 rfl)) (fun hHeld => ?_)
          refine pure_ (i := 0) (N := some 57) (v := ?_) (a' := ?_) #[true, false, false, false, false, false, false, false, false] rfl rfl (by kernel_rfl) (fun _ _ _ h => h) (Or.inl ⟨by rfl, ?_⟩) ?_ ?_
          rotate_left
          · intro w'
            go_simp
            with_reducible rfl
          rotate_left
          · simp only [Act.put, List.setIfInBounds_toArray, List.set_cons_zero, List.set_cons_succ, i64_w, i32_w]
            rfl
          refine pure_ (i := 2) (N := some 59) (v := ?_) (a' := ?_) #[true, false, true, false, false, false, false, false, false] rfl rfl (by kernel_rfl) (fun _ _ _ h => h) (Or.inl ⟨by rfl, ?_⟩) ?_ ?_
          rotate_left
          · intro w'
            go_simp
            with_reducible rfl
          rotate_left
          · simp only [Act.put, List.setIfInBounds_toArray, List.set_cons_zero, List.set_cons_succ, i64_w, i32_w]
            rfl
          refine pure_ (i := 3) (N := some 60) (v := ?_) (a' := ?_) #[true, false, true, true, false, false, false, false, false] rfl rfl (by kernel_rfl) (fun _ _ _ h => h) (Or.inl ⟨by rfl, ?_⟩) ?_ ?_
          rotate_left
          · intro w'
            go_simp
            with_reducible rfl
          rotate_left
          · simp only [Act.put, List.setIfInBounds_toArray, List.set_cons_zero, List.set_cons_succ, i64_w, i32_w]
            rfl
          refine take_ (i := 1) (N := some 58) (v := ?_) (a' := ?_) #[true, true, true, true, false, false, false, false, false] rfl rfl (by kernel_rfl) (fun _ _ _ h => h) (Or.inl ⟨by rfl, ?_⟩) hHeld ?_ ?_
          rotate_left
          · intro w' s0
            go_simp
            with_reducible rfl
          rotate_left
          · simp only [Act.put, List.setIfInBounds_toArray, List.set_cons_zero, List.set_cons_succ, i64_w, i32_w]
            rfl
          refine one_ (i := 4) (N := some 61) #[true, true, true, true, true, false, false, false, false] rfl rfl (by kernel_rfl) (by decide) (fun K hK => ?_)
          refine goes_ Try.func32 (by kernel_rfl) rfl #[.pointer (some ⟨g1, 0, none⟩), .int .i64 (s.up 8 5).2] (by rfl) rfl rfl (by first | (simp only [List.map_toArray, List.map_cons, List.map_nil]; done) | (simp only [List.map_toArray, List.map_cons, List.map_nil]; rfl)) ?_
          with_reducible refine (St_take (HSU.out.below (by repeat (first | exact Below.refl _ _ | apply below_alloc | apply pw_below_drewN | apply below_drew1 | (refine Below.setCell ?_ (by simp) _)))) (s.up 8 5).2 (by have := HKI.out.2; have := kU_len s; omega)).mono ?_
          rintro e w2 ⟨v2, rfl, hR, hS, hG⟩
          refine ⟨_, rfl, ?_⟩
          obtain ⟨A2, c2, rfl⟩ := Kd.R_slice hR
          have HKK := Aside0.mk (show Kd.FK (Kd.slice 5 (Kd.int .u8)) w2 (fun k => w9.heap.size ≤ k) (kKey s).2 [.slice A2 (kKey s).2.length c2] from Kd.FK_slice_mk (Kd.R_reads' hR).2.1 (Kd.R_F (Kd.R_mono (Kd.R_bound hR) (fun k hk => Nat.le_trans (below_size (by repeat (first | exact Below.refl _ _ | apply below_alloc | apply pw_below_drewN | apply below_drew1 | (refine Below.setCell ?_ (by simp) _)))) hk.2.1))))
          have HS2 := Aside0.mk hS
          have HN2 := Aside0.mk (Kd.N_grown (Kd.N_below HNU.out (by repeat (first | exact Below.refl _ _ | apply below_alloc | apply pw_below_drewN | apply below_drew1 | (refine Below.setCell ?_ (by simp) _)))) hG (fun k hk e => hk.2.1 (by injection e)))
          have hk2 : w2.cell? ⟨gg, 5, none⟩ = some v := hS.cell 5 rfl
          clear hR hS hG
          refine hK.out _ _ (hk2) (fun hHeld => ?_)
          clear hK K
          refine norm_ (a' := ?_) ?_ ?_
          rotate_left
          · show Act.put _ (some 61) _ = _
            simp only [Act.put, List.setIfInBounds_toArray, List.set_cons_zero, List.set_cons_succ, i64_w, i32_w]
            rfl
          refine one_ (i := 5) (N := some 62) #[true, true, true, true, true, true, false, false, false] rfl rfl (by kernel_rfl) (by decide) (fun K hK => ?_)
          refine value_ (w1 := ?_) (v := ?_) (by rfl) rfl ?_ ?_
          rotate_left 2
          · go_simp
            constructor
            · rfl
            · rfl
          refine hK.out _ _ (((blk_cell (blk_alloc HS2.out.hx _) 5).trans rfl)) (fun hHeld => ?_)
          clear hK K
          refine norm_ (a' := ?_) ?_ ?_
          rotate_left
          · show Act.put _ (some 62) _ = _
            simp only [Act.put, List.setIfInBounds_toArray, List.set_cons_zero, List.set_cons_succ, i64_w, i32_w]
            rfl
          refine one_ (i := 6) (N := some 63) #[true, true, true, true, true, true, true, false, false] rfl rfl (by kernel_rfl) (by decide) (fun K hK => ?_)
          refine Kd.N_append_step (Kd.slice 5 (Kd.int .u8)) (w0 := (w.alloc (.cells #[.int .u64 0, .int .u64 0, .int .i64 0, .int .i64 0, .int .u64 0, .slice none 0 0] 66))) (w.alloc (.cells #[.int .u64 0, .int .u64 0, .int .i64 0, .int .i64 0, .int .u64 0, .slice none 0 0] 66)).heap.size (by rfl) (.tmp 58) (.tmp 62) 64 27 (.slice none 0 0) 24 (by rfl) Try.underlying64 kgInfo rfl (by decide) (by omega) v keys (kKey s).2 [.slice A2 (kKey s).2.length c2] (fun k => (w.alloc (.cells #[.int .u64 0, .int .u64 0, .int .i64 0, .int .i64 0, .int .u64 0, .slice none 0 0] 66)).heap.size ≤ k ∧ k ≠ g1 ∧ k ≠ gg) (fun k => w9.heap.size ≤ k) (by rfl) (by rfl) (Kd.FK_below HKK.out (by repeat (first | exact Below.refl _ _ | apply below_alloc | apply pw_below_drewN | apply below_drew1 | (refine Below.setCell ?_ (by simp) _)))) ?hokp ?hfresh (Kd.N_below HN2.out (by repeat (first | exact Below.refl _ _ | apply below_alloc | apply pw_below_drewN | apply below_drew1 | (refine Below.setCell ?_ (by simp) _)))) (HS2.out.below (by repeat (first | exact Below.refl _ _ | apply below_alloc | apply pw_below_drewN | apply below_drew1 | (refine Below.setCell ?_ (by simp) _)))).hb (HS2.out.below (by repeat (first | exact Below.refl _ _ | apply below_alloc | apply pw_below_drewN | apply below_drew1 | (refine Below.setCell ?_ (by simp) _)))).hb.size ?hlen ?_
          case hokp => have q1 := HSU.out.hr.lt; have q2 := blk_lt HSU.out.hx; have q3 := HSU.out.hb.size; intro k hk; exact ⟨⟨by omega, by omega, by omega⟩, fun e => by have := Kd.N_lt HNU.out k e.symm; omega⟩
          case hfresh => have q1 := (HS2.out.below (by repeat (first | exact Below.refl _ _ | apply below_alloc | apply pw_below_drewN | apply below_drew1 | (refine Below.setCell ?_ (by simp) _)))).hr.lt; have q2 := blk_lt (HS2.out.below (by repeat (first | exact Below.refl _ _ | apply below_alloc | apply pw_below_drewN | apply below_drew1 | (refine Below.setCell ?_ (by simp) _)))).hx; have q3 := (HS2.out.below (by repeat (first | exact Below.refl _ _ | apply below_alloc | apply pw_below_drewN | apply below_drew1 | (refine Below.setCell ?_ (by simp) _)))).hb.size; intro k hk; exact ⟨by omega, by omega, by omega⟩
          case hlen => have := HKI.out.1; omega
          intro v4 w4 ho hb hg4 hat
          obtain ⟨A4, c4, e4⟩ := Kd.N_slice ho
          generalize (keys ++ [(kKey s).2]).length = n4 at e4
          subst e4
          have HN4 := Aside0.mk ho
          have HS4 := Aside0.mk ((HS2.out.below (by repeat (first | exact Below.refl _ _ | apply below_alloc | apply pw_below_drewN | apply below_drew1 | (refine Below.setCell ?_ (by simp) _)))).grown hg4 (fun k hk => HN2.out.1 k hk))
          have hz5 : w4.cell? ⟨gg, 5, none⟩ = some v := HS4.out.cell 5 rfl
          have hy5 := blk_frozen HS4.out.hx 5
          clear ho hb hg4 hat
          refine hK.out _ _ (hz5) (fun hHeld => ?_)
          clear hK K
          refine norm_ (a' := ?_) ?_ ?_
          rotate_left
          · show Act.put _ (some 63) _ = _
            simp only [Act.put, List.setIfInBounds_toArray, List.set_cons_zero, List.set_cons_succ, i64_w, i32_w]
            rfl
          refine pure_ (i := 7) (N := some 64) (v := ?_) (a' := ?_) #[true, true, true, true, true, true, true, true, false] rfl rfl (by kernel_rfl) (fun _ _ _ h => h) (Or.inl ⟨by rfl, ?_⟩) ?_ ?_
          rotate_left
          · intro w'
            go_simp
            with_reducible rfl
          rotate_left
          · simp only [Act.put, List.setIfInBounds_toArray, List.set_cons_zero, List.set_cons_succ, i64_w, i32_w]
            rfl
          refine last_ (i := 8) (N := none) #[true, true, true, true, true, true, true, true, true] rfl rfl (by kernel_rfl) (by decide) (fun K hK => ?_)
          refine skip_ (w1 := ?_) (by rfl) rfl ?_ ?_
          rotate_left
          · go_simp
            rfl
          refine hK.out _ _ ?_
          clear hK K
          refine done_ (by kernel_rfl) ?_
          have HS5 := Aside0.mk (show PSt 66 (w.alloc (.cells #[.int .u64 0, .int .u64 0, .int .i64 0, .int .i64 0, .int .u64 0, .slice none 0 0] 66)) (w4.setCell ⟨gg, 5, none⟩ (.slice A4 n4 c4)) g1 gg (kKey s).1 (gbox (kA t).2 (kB t).2 (kR t).2 (kC t).2 (kF t).2 (.slice A4 n4 c4)) from HS4.out.set 5 _ rfl)
          have HN5 := Aside0.mk (Kd.N_far HN4.out (p := ⟨gg, 5, none⟩) (fun k hk => hk.2.2) (.slice A4 n4 c4))
          clear HS2 HN2 HKK hk2 HN4 HS4 hz5 hy5
          by_cases hee : (kKey s).1.e = 0
          · have heb2 : ((kKey s).1.e != 0) = false := by simpa using hee
            have HEE := Aside0.mk hee
            clear hee
            go_wp2_with (go_at_call 35; (refine (HS5.out.hr.err).mono ?_); rintro e w' ⟨rfl, rfl⟩)
            go_roundg (n + 1 - (i + 1))
            case measure => have := HK.out; omega
            case rel => exact ⟨i + 1, keys ++ [(kKey s).2], (kKey s).1, .slice A4 n4 c4, by go_num, by omega, ⟨rfl⟩, ⟨by have hh := HG.out; rw [show n - i = (n - (i + 1)) + 1 by omega] at hh; unfold gkeys at hh; rwa [if_pos HEE.out] at hh⟩, ⟨by rw [List.length_append, HKI.out.1]; rfl, Nat.le_trans (kKey_len s) HKI.out.2⟩, HS5, HN5⟩
          · have heb2 : ((kKey s).1.e != 0) = true := by simpa using hee
            have hdo : (kKey s).1.done = (kKey s).1.e := by unfold RS.done; rw [if_neg hee]
            have hd1 : ((kKey s).1.done == 0) = false := by rw [hdo]; simpa using hee
            have hd2 : ((kKey s).1.done != 0) = true := by rw [hdo]; simpa using hee
            have HDO := Aside0.mk hdo
            have HEE := Aside0.mk hee
            clear hee hdo
            have hzr0 := (blk_cell (kg_res (HS5.out.hb)) 0).trans rfl; have hyr0 := blk_frozen (kg_res (HS5.out.hb)) 0; have hzr1 := (blk_cell (kg_res (HS5.out.hb)) 1).trans rfl; have hyr1 := blk_frozen (kg_res (HS5.out.hb)) 1; have hzr2 := (blk_cell (kg_res (HS5.out.hb)) 2).trans rfl; have hyr2 := blk_frozen (kg_res (HS5.out.hb)) 2; have hzr3 := (blk_cell (kg_res (HS5.out.hb)) 3).trans rfl; have hyr3 := blk_frozen (kg_res (HS5.out.hb)) 3; have hzr4 := (blk_cell (kg_res (HS5.out.hb)) 4).trans rfl; have hyr4 := blk_frozen (kg_res (HS5.out.hb)) 4; have hzr5 := (blk_cell (kg_res (HS5.out.hb)) 5).trans rfl; have hyr5 := blk_frozen (kg_res (HS5.out.hb)) 5
            go_wp2_with (first | (go_at_call 35; (refine (HS5.out.hr.err).mono ?_); rintro e w' ⟨rfl, rfl⟩) | (go_at_call 37; (refine (Done_any _ _ g1 (kKey s).1 HS5.out.hr).mono ?_); rintro e w' ⟨rfl, rfl⟩))
            have hKK : (kK t).2 = (kKey s).1 := by have hh := HG.out; rw [show n - i = (n - (i + 1)) + 1 by omega] at hh; unfold gkeys at hh; rw [if_neg HEE.out] at hh; rw [← hh]
            refine bodyPost_ret (results_ct rfl _ _ w.heap.size 66 #[.int .u64 0, .int .u64 0, .int .i64 0, .int .i64 0, .int .u64 0, .slice none 0 0] (0, 0) _ rfl (kgOut_blk (HS5.out.hb) 0 0 0 0 0 (.slice none 0 0)) Try.underlying66 rfl rfl) (by rfl) ?_
            have hkE : kE t = (kKey s).1.done := by rw [kE_no (by rw [hKK, HDO.out]; exact HEE.out), hKK]
            have hg := HP.out.1 (by rw [hkE]; exact (by rw [HDO.out]; exact HEE.out))
            rw [hg, hkE]
            exact ⟨_, rfl, Kd.N_nil _ _ _ _ _, kgOut_bel (HS5.out.hb) 0 0 0 0 0 (.slice none 0 0)⟩
      · obtain rfl : i = n := by omega
        have hKK : kK t = (keys, s) := by have hh := HG.out; rw [Nat.sub_self] at hh; unfold gkeys at hh; exact hh.symm
        have HKK := Aside0.mk hKK
        clear hKK
        obtain ⟨Av, cv, rfl⟩ := Kd.N_slice HNK.out
        have hcap := (Kd.N_reads' HNK.out).2.1
        by_cases hdo : s.done = 0
        · have hd1 : (s.done == 0) = true := by simpa using hdo
          have HDO := Aside0.mk hdo
          clear hdo hlt
          have hzg0 := (HS.out.cell 0 rfl); have hzg1 := (HS.out.cell 1 rfl); have hzg2 := (HS.out.cell 2 rfl); have hzg3 := (HS.out.cell 3 rfl); have hzg4 := (HS.out.cell 4 rfl); have hzg5 := (HS.out.cell 5 rfl)
          by_cases hgc : gcheck (kR t).2 (kC t).2 (kF t).2 keys = 0
          · have hq : (gcheck (kR t).2 (kC t).2 (kF t).2 keys != 0) = false := by simpa using hgc
            have HGC := Aside0.mk hgc
            clear hgc
            go_wp2_with (first | (go_at_call 37; (refine (Done_any _ _ g1 s HS.out.hr).mono ?_); rintro e w' ⟨rfl, rfl⟩) | (go_at_call 40; (refine (HCK.out (kA t).2 (kB t).2 (kR t).2 (kC t).2 (kF t).2 Av cv keys _ (Kd.C_below (Kd.N_reads' HNK.out).2.2 (by repeat (first | exact Below.refl _ _ | apply below_alloc | apply pw_below_drewN | apply below_drew1 | (refine Below.setCell ?_ (by simp) _)))) hcap (by have := HKI.out.1; omega) HFR.out.1 HFR.out.2).mono ?_); rintro e w10 ⟨rfl, hb⟩; have hS := HS.out.below hb; have hzh0 := (hS.cell 0 rfl); have hzh1 := (hS.cell 1 rfl); have hzh2 := (hS.cell 2 rfl); have hzh3 := (hS.cell 3 rfl); have hzh4 := (hS.cell 4 rfl); have hzh5 := (hS.cell 5 rfl); have HS10 := Aside0.mk hS; have HN10 := Aside0.mk (Kd.N_below HNK.out hb); have hzr0 := (blk_cell (kg_res (hS.hb)) 0).trans rfl; have hyr0 := blk_frozen (kg_res (hS.hb)) 0; have hzr1 := (blk_cell (kg_res (hS.hb)) 1).trans rfl; have hyr1 := blk_frozen (kg_res (hS.hb)) 1; have hzr2 := (blk_cell (kg_res (hS.hb)) 2).trans rfl; have hyr2 := blk_frozen (kg_res (hS.hb)) 2; have hzr3 := (blk_cell (kg_res (hS.hb)) 3).trans rfl; have hyr3 := blk_frozen (kg_res (hS.hb)) 3; have hzr4 := (blk_cell (kg_res (hS.hb)) 4).trans rfl; have hyr4 := blk_frozen (kg_res (hS.hb)) 4; have hzr5 := (blk_cell (kg_res (hS.hb)) 5).trans rfl; have hyr5 := blk_frozen (kg_res (hS.hb)) 5; clear hS hb))
            refine bodyPost_ret (results_ct rfl _ _ w.heap.size 66 (gbox (kA t).2 (kB t).2 (kR t).2 (kC t).2 (kF t).2 (.slice Av keys.length cv)) (0, 0) _ rfl (kgOut_blk HS10.out.hb _ _ _ _ _ _) Try.underlying66 rfl rfl) (by rfl) ?_
            have hkE : kE t = 0 := by rw [kE_ck (by rw [HKK.out]; exact HDO.out), HKK.out]; exact HGC.out
            rw [HP.out.2 hkE, HKK.out]
            exact ⟨_, rfl, kgOut_N HN10.out (by simp) (fun k hk => by have h1 := hk.1; simp at h1; omega) _ _ _ _ _ _, kgOut_bel HS10.out.hb _ _ _ _ _ _⟩
          · have hq : (gcheck (kR t).2 (kC t).2 (kF t).2 keys != 0) = true := by simpa using hgc
            have HGC := Aside0.mk hgc
            clear hgc
            go_wp2_with (first | (go_at_call 37; (refine (Done_any _ _ g1 s HS.out.hr).mono ?_); rintro e w' ⟨rfl, rfl⟩) | (go_at_call 40; (refine (HCK.out (kA t).2 (kB t).2 (kR t).2 (kC t).2 (kF t).2 Av cv keys _ (Kd.C_below (Kd.N_reads' HNK.out).2.2 (by repeat (first | exact Below.refl _ _ | apply below_alloc | apply pw_below_drewN | apply below_drew1 | (refine Below.setCell ?_ (by simp) _)))) hcap (by have := HKI.out.1; omega) HFR.out.1 HFR.out.2).mono ?_); rintro e w10 ⟨rfl, hb⟩; have hS := HS.out.below hb; have HS10 := Aside0.mk hS; have hzr0 := (blk_cell (kg_res (hS.hb)) 0).trans rfl; have hyr0 := blk_frozen (kg_res (hS.hb)) 0; have hzr1 := (blk_cell (kg_res (hS.hb)) 1).trans rfl; have hyr1 := blk_frozen (kg_res (hS.hb)) 1; have hzr2 := (blk_cell (kg_res (hS.hb)) 2).trans rfl; have hyr2 := blk_frozen (kg_res (hS.hb)) 2; have hzr3 := (blk_cell (kg_res (hS.hb)) 3).trans rfl; have hyr3 := blk_frozen (kg_res (hS.hb)) 3; have hzr4 := (blk_cell (kg_res (hS.hb)) 4).trans rfl; have hyr4 := blk_frozen (kg_res (hS.hb)) 4; have hzr5 := (blk_cell (kg_res (hS.hb)) 5).trans rfl; have hyr5 := blk_frozen (kg_res (hS.hb)) 5; clear hS hb))
            refine bodyPost_ret (results_ct rfl _ _ w.heap.size 66 #[.int .u64 0, .int .u64 0, .int .i64 0, .int .i64 0, .int .u64 0, .slice none 0 0] (0, 0) _ rfl (kgOut_blk (HS10.out.hb) 0 0 0 0 0 (.slice none 0 0)) Try.underlying66 rfl rfl) (by rfl) ?_
            have hkE : kE t = gcheck (kR t).2 (kC t).2 (kF t).2 keys := by rw [kE_ck (by rw [HKK.out]; exact HDO.out), HKK.out]
            have hg := HP.out.1 (by rw [hkE]; exact HGC.out)
            rw [hg, hkE]
            exact ⟨_, rfl, Kd.N_nil _ _ _ _ _, kgOut_bel (HS10.out.hb) 0 0 0 0 0 (.slice none 0 0)⟩
        · have hd1 : (s.done == 0) = false := by simpa using hdo
          have hd2 : (s.done != 0) = true := by simpa using hdo
          have HDO := Aside0.mk hdo
          have hzr0 := (blk_cell (kg_res (HS.out.hb)) 0).trans rfl; have hyr0 := blk_frozen (kg_res (HS.out.hb)) 0; have hzr1 := (blk_cell (kg_res (HS.out.hb)) 1).trans rfl; have hyr1 := blk_frozen (kg_res (HS.out.hb)) 1; have hzr2 := (blk_cell (kg_res (HS.out.hb)) 2).trans rfl; have hyr2 := blk_frozen (kg_res (HS.out.hb)) 2; have hzr3 := (blk_cell (kg_res (HS.out.hb)) 3).trans rfl; have hyr3 := blk_frozen (kg_res (HS.out.hb)) 3; have hzr4 := (blk_cell (kg_res (HS.out.hb)) 4).trans rfl; have hyr4 := blk_frozen (kg_res (HS.out.hb)) 4; have hzr5 := (blk_cell (kg_res (HS.out.hb)) 5).trans rfl; have hyr5 := blk_frozen (kg_res (HS.out.hb)) 5
          clear hdo hlt
          go_wp2_with (go_at_call 37; (refine (Done_any _ _ g1 s HS.out.hr).mono ?_); rintro e w' ⟨rfl, rfl⟩)
          refine bodyPost_ret (results_ct rfl _ _ w.heap.size 66 #[.int .u64 0, .int .u64 0, .int .i64 0, .int .i64 0, .int .u64 0, .slice none 0 0] (0, 0) _ rfl (kgOut_blk (HS.out.hb) 0 0 0 0 0 (.slice none 0 0)) Try.underlying66 rfl rfl) (by rfl) ?_
          have hkE : kE t = s.done := by rw [kE_no (by rw [HKK.out]; exact HDO.out), HKK.out]
          have hg := HP.out.1 (by rw [hkE]; exact HDO.out)
          rw [hg, hkE]
          exact ⟨_, rfl, Kd.N_nil _ _ _ _ _, kgOut_bel (HS.out.hb) 0 0 0 0 0 (.slice none 0 0)⟩
end Go.Proofs.Ytpephndecdkfhaa
