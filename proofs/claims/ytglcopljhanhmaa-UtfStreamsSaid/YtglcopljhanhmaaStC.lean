/- utf.Stream: as the law sees it. -/
import Derived.Test.YtglcopljhanhmaaStB
namespace Go.Proofs.Ytglcopljhanhmaa.Str
open Go.RowKit Go.Proofs.Ytglcopljhanhmaa Go.Proofs.Ytglcopljhanhmaa.PUtfStreams Go.Proofs.YtglcopljhanhmaaW.PrintWords Go.Proofs.YtglcopljhanhmaaW.PrintLast Go.Proofs.YtglcopljhanhmaaW.PrintMore
set_option linter.unusedVariables false
set_option linter.unusedSimpArgs false
theorem Held_nil (w : World) : Calls Try.prog 25 #[.pointer none] w fun e w' => e = .returned (.slice none 0 0) ∧ w' = w := by
  go_enter Try.func25, Try.ntmps25
  go_wp2
  all_goals go_ret
  all_goals exact ⟨rfl, rfl⟩
theorem Flush_nil (w : World) : Calls Try.prog 26 #[.pointer none] w fun e w' => e = .returned (.slice none 0 0) ∧ w' = w := by
  go_enter Try.func26, Try.ntmps26
  go_wp2
  all_goals go_ret
  all_goals exact ⟨rfl, rfl⟩
theorem Feed_nil (w : World) (v : Value) : Calls Try.prog 22 #[.pointer none, v] w fun e w' => e = .returned (.slice none 0 0) ∧ w' = w := by
  go_enter Try.func22, Try.ntmps22
  go_wp2
  all_goals go_ret
  all_goals exact ⟨rfl, rfl⟩
/-- The law's world: a stream at g holds h; a row v of the law's own, behind it, is out. -/
structure LW (w W : World) (g : Nat) (v : Value) (out h : List Int) : Prop where
  st : StS w W g h
  ro : Kd.R (Kd.int .i32) 21 W (g + 1) (fun _ => True) v out
  le : g + 1 ≤ W.heap.size
theorem StS.keep {w W W1 : World} {g : Nat} {h : List Int} (hs : StS w W g h) (hb : Below (g + 1) W W1) : StS w W1 g h := by
  obtain ⟨x0, x1, x2, hx, hh⟩ := hs.hx
  exact ⟨hs.hb.trans (hb.mono (by have := hs.ge; omega)), hs.ge, hs.l3, x0, x1, x2, (hb.block g (by omega)).trans hx, hh⟩
theorem LW.below {w W W1 : World} {g : Nat} {v : Value} {out h : List Int} (hs : LW w W g v out h) (hb : Below W.heap.size W W1) : LW w W1 g v out h :=
  ⟨hs.st.keep (hb.mono hs.le), Kd.R_below hs.ro hb, Nat.le_trans hs.le hb.size⟩
theorem LW.app {w W W1 : World} {g : Nat} {v v1 : Value} {out out1 h : List Int} (hs : LW w W g v out h) (ho : Kd.R (Kd.int .i32) 21 W1 (g + 1) (fun _ => True) v1 out1) (hb : Below (g + 1) W W1) : LW w W1 g v1 out1 h :=
  ⟨hs.st.keep hb, ho, Nat.le_trans hs.le hb.size⟩
theorem LW.reads {w W : World} {g : Nat} {v : Value} {out h : List Int} (hs : LW w W g v out h) : ∃ A c, v = .slice A out.length c ∧ out.length ≤ c ∧ Kd.C (Kd.int .i32) W A out.length out := Kd.R_reads hs.ro
theorem LW_feed {w W : World} {g : Nat} {v : Value} {out h : List Int} (hs : LW w W g v out h) (A : Option Addr) (c : Nat) (b : List Int) (hC : Kd.C (Kd.int .u8) w A b.length b) (hc : b.length ≤ c) (h8 : In8u (h ++ b)) (hlen : b.length ≤ 1000000)
    {sc hl : List Int} (hcut : cutZ (h ++ b) = (sc, hl)) :
    Calls Try.prog 22 #[.pointer (some ⟨g, 0, none⟩), .slice A b.length c] W fun e w' => ∃ A2 c2, e = .returned (.slice A2 sc.length c2) ∧ Kd.C (Kd.int .i32) w' A2 sc.length sc ∧ LW w w' g v out hl := by
  refine (Feed_any w W g h A c b sc hl hs.st hC hc h8 hlen hcut).mono ?_
  rintro e w' ⟨u, rfl, hR, hS, hG⟩
  obtain ⟨A2, c2, rfl, -, hC2⟩ := Kd.R_reads hR
  exact ⟨A2, c2, rfl, hC2, hS, Kd.R_mono (Kd.R_grown (Kd.R_bound hs.ro) hG (fun k hk e => by injection e with e; have := hk.2.1; omega)) (fun _ _ => trivial), Nat.le_trans hs.le hG.size⟩
theorem LW_held {w W : World} {g : Nat} {v : Value} {out h : List Int} (hs : LW w W g v out h) :
    Calls Try.prog 25 #[.pointer (some ⟨g, 0, none⟩)] W fun e w' => ∃ A2 c2, e = .returned (.slice A2 h.length c2) ∧ h.length ≤ c2 ∧ Kd.C (Kd.int .u8) w' A2 h.length h ∧ LW w w' g v out h ∧ Below W.heap.size W w' := by
  refine (Held_any w W g h hs.st).mono ?_
  rintro e w' ⟨u, rfl, hR, hb⟩
  obtain ⟨A2, c2, rfl, hc2, hC2⟩ := Kd.R_reads hR
  exact ⟨A2, c2, rfl, hc2, hC2, hs.below hb, hb⟩
theorem LW_flush {w W : World} {g : Nat} {v : Value} {out h : List Int} (hs : LW w W g v out h) {r : List Int} (hr : (if h = [] then [] else [65533]) = r) :
    Calls Try.prog 26 #[.pointer (some ⟨g, 0, none⟩)] W fun e w' => ∃ A2 c2, e = .returned (.slice A2 r.length c2) ∧ Kd.C (Kd.int .i32) w' A2 r.length r ∧ LW w w' g v out [] ∧ W.grownBy w' (some g) := by
  refine (Flush_any w W g h r hs.st hr).mono ?_
  rintro e w' ⟨u, rfl, hR, hS, hG⟩
  obtain ⟨A2, c2, rfl, -, hC2⟩ := Kd.R_reads hR
  exact ⟨A2, c2, rfl, hC2, ⟨hS, Kd.R_mono (Kd.R_grown (Kd.R_bound hs.ro) hG (fun k hk e => by injection e with e; have := hk.2.1; omega)) (fun _ _ => trivial), Nat.le_trans hs.le hG.size⟩, hG⟩
/-- The document's cut, and the answers that are held together. -/
theorem Cut_any (A : Option Addr) (c : Nat) (b : List Int) (W : World) (hC : Kd.C (Kd.int .u8) W A b.length b) (hc : b.length ≤ c) (h8 : In8u b) (hl : b.length ≤ 1000) {sc hl' : List Int} (hq : cutZ b = (sc, hl')) :
    Calls Try.prog 23 #[.slice A b.length c] W fun e w' => ∃ A1 c1 A2 c2, e = .returned (.tuple #[.slice A1 sc.length c1, .slice A2 hl'.length c2]) ∧ sc.length ≤ c1 ∧ hl'.length ≤ c2 ∧ Kd.C (Kd.int .i64) w' A1 sc.length sc ∧ Kd.C (Kd.int .u8) w' A2 hl'.length hl' ∧ Below W.heap.size W w' := by
  refine (prolepsisref02_Cut.calls 2000 (fun k_ => k_ < W.heap.size) A c b sc hl' W (Kd.V_mk hc (Kd.F_below (Kd.C_F (Kd.heap_int .u8) hC) (Below.refl _ _))) (by rw [rCut_ok b h8 (by omega) 2000 (by omega)]; exact congrArg some hq)).mono ?_
  rintro e w' ⟨v0, v1, rfl, hR, hV, hb⟩
  obtain ⟨A1, c1, rfl, hc1, hC1⟩ := Kd.R_reads hR
  obtain ⟨A2, c2, rfl⟩ := Kd.V_slice hV
  have := Kd.V_reads' hV
  exact ⟨A1, c1, A2, c2, rfl, hc1, this.2.1, hC1, this.2.2, hb⟩
theorem Runes_any (A : Option Addr) (c : Nat) (b : List Int) (W : World) (hC : Kd.C (Kd.int .u8) W A b.length b) (hc : b.length ≤ c) (h8 : In8u b) (hl : b.length ≤ 1000) {r : List Int} (hq : runesZ b = r) :
    Calls Try.prog 16 #[.slice A b.length c] W fun e w' => ∃ A1 c1, e = .returned (.slice A1 r.length c1) ∧ r.length ≤ c1 ∧ Kd.C (Kd.int .i64) w' A1 r.length r ∧ Below W.heap.size W w' := by
  refine (prolepsisref02_Runes.calls 2000 A c b r W hC hc (by rw [rRunes_ok b h8 (by omega) 2000 (by omega), hq])).mono ?_
  rintro e w' ⟨v0, rfl, hR, hb⟩
  obtain ⟨A1, c1, rfl, hc1, hC1⟩ := Kd.R_reads hR
  exact ⟨A1, c1, rfl, hc1, hC1, hb⟩
theorem Same_any (A : Option Addr) (c : Nat) (A' : Option Addr) (c' : Nat) (l : List Int) (W : World) (hC : Kd.C (Kd.int .i32) W A l.length l) (hc : l.length ≤ c) (hC' : Kd.C (Kd.int .i64) W A' l.length l) (hc' : l.length ≤ c')
    (h32 : ∀ x ∈ l, -2147483648 ≤ x ∧ x ≤ 2147483647) (hl : l.length ≤ 1000) :
    Calls Try.prog 18 #[.slice A l.length c, .slice A' l.length c'] W fun e w' => e = .returned (.bool true) ∧ Below W.heap.size W w' :=
  (prolepsislaw02_Same.calls 2000 A c l A' c' l true W hC hc hC' hc' (Same_ok l h32 (by omega) 2000 (by omega))).mono (fun e w' ⟨a, b⟩ => ⟨a, b.below⟩)
theorem Same8_any (A : Option Addr) (c : Nat) (A' : Option Addr) (c' : Nat) (l : List Int) (W : World) (hC : Kd.C (Kd.int .u8) W A l.length l) (hc : l.length ≤ c) (hC' : Kd.C (Kd.int .u8) W A' l.length l) (hc' : l.length ≤ c') :
    Calls Try.prog 24 #[.slice A l.length c, .slice A' l.length c'] W fun e w' => e = .returned (.bool true) ∧ Below W.heap.size W w' :=
  (prolepsisref01_Same.calls A c l A' c' l true W hC hc hC' hc' (by unfold prolepsisref01_Same.f; simp)).mono (fun e w' ⟨a, b⟩ => ⟨a, b.below⟩)
theorem known_anyS (W : World) : Calls Try.prog 17 #[] W fun e w' => e = .returned (.bool true) ∧ Below W.heap.size W w' := prolepsislaw02_known.calls true W rfl
/-- What is told is small. -/
theorem cut_small : ∀ (n : Nat) (l : List Int), l.length ≤ n → In8u l → ∀ x ∈ (cutZ l).1, -2147483648 ≤ x ∧ x ≤ 2147483647 := by
  intro n l hn h8 x hx
  have := runes_scalar l.length l (Nat.le_refl _) h8 x (by rw [cutZ_runes]; exact List.mem_append_left _ hx)
  have := (scalar_iff x).1 this
  omega
end Go.Proofs.Ytglcopljhanhmaa.Str
