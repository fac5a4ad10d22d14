/- utf.Runes: the walk. -/
import Derived.Test.YtglcopljhanhmaaUtfE
import Derived.Test.YtglcopljhanhmaaRows
import Derived.Test.YtglcopljhanhmaaLit
import Derived.Test.YtglcopljhanhmaaCuts
import Derived.WalkKit
import Derived.WalkSpells
import Derived.WalkLawsBesides
import Derived.WalkSmall
import Derived.Lib.OthersKept
import Derived.ScopeJumps
namespace Go.Proofs.Ytglcopljhanhmaa
open Go.RowKit Go.Proofs.YtglcopljhanhmaaW.PrintWords Go.Proofs.YtglcopljhanhmaaW.PrintLast Go.Proofs.YtglcopljhanhmaaW.PrintMore
set_option linter.unusedVariables false
set_option linter.unusedSimpArgs false
theorem R_iterAt {k : IntKind} {e : Nat} {W : World} {base : Nat} {v : Value} {xs : List Int} (h : (Kd.int k).R e W base (fun _ => True) v xs) {b : Nat} (hb : b < base) (s : ByteArray) (p : Nat) : (Kd.int k).R e (W.iterAt b s p) base (fun _ => True) v xs := by
  obtain ⟨h1, inner, ho, hr⟩ := h
  exact ⟨h1, inner, ownsRow_iterAt ho hb s p, hr⟩
theorem drop_rdU {xs : List Int} {i : Nat} (h : i < xs.length) : xs.drop i = rd xs (i : Int) :: xs.drop (i + 1) := by
  rw [List.drop_eq_getElem_cons h]
  simp [rd, List.getD_eq_getElem?_getD, h]
theorem box_ltU (w : World) (o : Obj) : w.heap.size < (w.alloc o).heap.size := by show w.heap.size < (w.heap.push o).size; simp
theorem runesN_le : ∀ (n : Nat) (l : List Int), (runesN n l).length ≤ n := by
  intro n
  induction n with
  | zero => intro l; simp [runesN]
  | succ n ih =>
    intro l
    match l with
    | [] => simp [runesN]
    | a :: t =>
      rw [runesN]
      · split
        · simp
        · have := ih ((a :: t).drop (parseZ (a :: t)).2.1.toNat); simp; exact this
      · simp
theorem runesZ_len (l : List Int) : (runesZ l).length ≤ l.length := runesN_le _ _
theorem iter_size (w : World) (s : ByteArray) (p : Nat) : (w.iter s p).heap.size = w.heap.size + 1 := Array.size_push _
theorem iter_block {w W : World} {s : ByteArray} {p : Nat} (h : Below (w.heap.size + 1) (w.iter s p) W) : W.heap[w.heap.size]? = some (.stringIter s p) := (h.block w.heap.size (by omega)).trans (World.iter_heap w s p)
theorem iter_next {w W : World} {s : ByteArray} {p : Nat} (h : Below (w.heap.size + 1) (w.iter s p) W) (p' : Nat) : Below (w.heap.size + 1) (w.iter s p') (W.iterAt w.heap.size s p') := by
  have hs := h.size
  rw [iter_size] at hs
  refine ⟨h.os, h.tape, h.output, by rw [iter_size, Lib.iterAt_size]; exact hs, fun k hk => ?_⟩
  by_cases e : k = w.heap.size
  · rw [e, World.iter_heap, Lib.iterAt_heap W w.heap.size s p p' (iter_block h)]
  · rw [Lib.iterAt_other _ _ _ _ _ e, h.block k hk]
    show (w.heap.push _)[k]? = (w.heap.push _)[k]?
    rw [Array.getElem?_push, Array.getElem?_push, if_neg e, if_neg e]
theorem iter_below {w W : World} {s : ByteArray} {p : Nat} (h : Below (w.heap.size + 1) (w.iter s p) W) : Below w.heap.size w W := by
  have h0 : Below w.heap.size w (w.iter s p) := below_alloc (Below.refl _ _) _
  exact h0.trans (h.mono (by omega))
theorem info21 : (Try.prog.info? 21).map (fun i => (i.zero, i.size, i.bytes)) = some (some (.int .i32 0), 1, 4) := by kernel_rfl
theorem info5u : (Try.prog.info? 5).map (fun i => (i.zero, i.size, i.bytes)) = some (some (.int .u8 0), 1, 1) := by kernel_rfl
set_option maxHeartbeats 4000000 in
set_option maxRecDepth 100000 in
theorem Runes_walk (hW : ∀ (A : Option Addr) (c : Nat) (l : List Int) (w : World), (Kd.int .u8).C w A l.length l → l.length ≤ c → In8u l → l.length ≤ 1000000 →
      Calls Try.prog 58 #[.slice A l.length c] w fun e w' => ∃ v, e = .returned v ∧ Kd.R (Kd.int .i32) 21 w' w.heap.size (fun _ => True) v (runesZ l) ∧ Below w.heap.size w w')
    (A : Option Addr) (c : Nat) (l : List Int) (w : World) (hC : (Kd.int .u8).C w A l.length l) (hc : l.length ≤ c) (h8 : In8u l) (hlen : l.length ≤ 1000000) :
    Calls Try.prog 19 #[.slice A l.length c] w fun e w' => ∃ v, e = .returned v ∧ Kd.R (Kd.int .i32) 21 w' w.heap.size (fun _ => True) v (runesZ l) ∧ Below w.heap.size w w' := by
  have hcv := Kd.C_string (P := Try.prog) (A := A) (c := c) Try.underlying22 Try.underlying5 Try.underlying9 hC
  have HC := Aside0.mk hC
  have HW := Aside0.mk hW
  have H8 := Aside0.mk h8
  obtain ⟨s, hs⟩ : ∃ s, strOfNums l = s := ⟨_, rfl⟩
  rw [hs] at hcv
  have HS := Aside0.mk hs
  have HSZ := Aside0.mk (show s.size = l.length by rw [← hs]; exact str_size l)
  clear hC hW h8 hs
  go_enter Try.func19, Try.ntmps19
  go_wp2
  go_loopg [3] (l.length + 1) (fun kq v3 w' => ∃ (pos : Nat) (out : List Int), pos ≤ l.length ∧ Aside0 (kq = l.length + 1 - pos) ∧ Aside0 (out.length ≤ pos) ∧ Aside0 (runesZ l = out ++ runesZ (l.drop pos)) ∧ Aside0 (Kd.R (Kd.int .i32) 21 w' (w.heap.size + 1) (fun _ => True) v3 out) ∧ Aside0 (Below (w.heap.size + 1) (w.iter s pos) w'))
  case atStart => exact ⟨0, [], by omega, ⟨rfl⟩, ⟨Nat.le_refl _⟩, ⟨by simp⟩, ⟨Kd.R_nil _ _ _ _ _⟩, ⟨Below.refl _ _⟩⟩
  case round =>
    obtain ⟨pos, out, hp, HK, HL, HZ, HO, HB⟩ := hrel
    have hk := iter_block HB.out
    by_cases hlt : pos < l.length
    · obtain ⟨r, n, hd⟩ : ∃ r n, Utf8.decode s pos = (r, n) := ⟨_, _, rfl⟩
      have hnx := fun ty => Lib.run_next_any_at (P := Try.prog) wr w.heap.size s pos ty hk (by rw [HSZ.out]; exact hlt)
      rw [hd] at hnx
      have HD := Aside0.mk (show decL (l.drop pos) = (r, n) by rw [← dec_eq l H8.out pos hp, HS.out]; exact hd)
      clear hd
      by_cases hr : r = 65533
      · -- something broken: the walk goes on one by one
        have hrb : ((r : Int) == 65533) = true := by rw [hr]; rfl
        have hr2 : ((r : Int)) = 65533 := by rw [hr]; rfl
        clear hr HD
        obtain ⟨A2, hcut, hread, hl2⟩ := cut_drop (P := Try.prog) (Kd.int .u8) 22 5 .i64 Try.underlying22 info5u A c l (pos : Int) (by omega) (by omega) hc
        have hC2 := hread w HC.out
        simp only [Int.toNat_natCast] at hcut hC2 hl2
        have HC2 := Aside0.mk hC2
        have HL2 := Aside0.mk hl2
        obtain ⟨L2, hL2⟩ : ∃ L, l.drop pos = L := ⟨_, rfl⟩
        rw [hL2] at hcut HC2 HL2 HZ
        have H82 := Aside0.mk (show In8u L2 by rw [← hL2]; exact fun x hx => H8.out x (List.mem_of_mem_drop hx))
        have HLL := Aside0.mk (show L2.length ≤ 1000000 by rw [← hL2, List.length_drop]; omega)
        clear hC2 hl2 hread hL2
        have HB1 := Aside0.mk (iter_next HB.out (pos + n))
        have HO1 := Aside0.mk (R_iterAt HO.out (Nat.lt_succ_self _) s (pos + n))
        have HS1 := Aside0.mk (show w.heap.size + 1 ≤ (wr.iterAt w.heap.size s (pos + n)).heap.size by have := HB1.out.size; rw [iter_size] at this; exact this)
        have HLO := Aside0.mk (show out.length ≤ 1000000 by have := HL.out; omega)
        have HRL := Aside0.mk (show (runesZ L2).length ≤ L2.length from runesZ_len L2)
        go_wp2_with (first | (go_at_call 58; refine (HW.out A2 (c - pos) L2 _ (Kd.C_below HC2.out (iter_below HB1.out)) HL2.out H82.out HLL.out).mono ?_; rintro e w2 ⟨v, rfl, hR, hbb⟩; obtain ⟨A3, c3, rfl, hc3, hC3⟩ := Kd.R_reads hR; have HC3 := Aside0.mk hC3; have HB2 := Aside0.mk (Below.trans HB1.out (hbb.mono HS1.out)); have HO2 := Aside0.mk (Kd.R_below (base := w.heap.size + 1) HO1.out hbb); have HS2 := Aside0.mk (Nat.le_trans HS1.out hbb.size); clear hR hbb hC3) | ((with_reducible refine gate_builtin (b := .append) (xs := #[.tmp 15, .tmp 19]) rfl ?_); go_must (at_builtin); go_must (refine Kd.R_append_rows (Kd.int .i32) (w0 := w.iter s (pos + n)) (w.heap.size + 1) rfl (.tmp 15) (.tmp 19) 31 21 (.int .i32 0) 4 rfl Try.underlying31 info21 rfl (by decide) (by omega) _ out (runesZ L2) _ _ _ (fun _ => True) (fun _ => False) rfl rfl ?aO ?aR (fun _ _ h => h) (fun _ h => h.elim) (fun _ _ => trivial) ?aB ?aS ?aL ?_); go_must (case aO => exact HO2.out); go_must (case aR => exact HC3.out); go_must (case aB => exact HB2.out); go_must (case aS => exact HS2.out); go_must (case aL => have := HLO.out; have := HRL.out; have := HLL.out; omega); intro vq wq ho hb hg hat; have HO3 := Aside0.mk ho; have HB3 := Aside0.mk hb; clear ho hb hg hat))
        go_ret
        exact ⟨_, rfl, by rw [HZ.out]; exact Kd.R_lower HO3.out (Nat.le_succ _), iter_below HB3.out⟩
      · have hrb : ((r : Int) == 65533) = false := by rw [beq_eq_false_iff_ne]; omega
        have hn := dec_parse (l.drop pos) (fun x hx => H8.out x (List.mem_of_mem_drop hx)) r n HD.out (by intro e; have := List.drop_eq_nil_iff.1 e; omega) hr
        have HP := Aside0.mk hn
        have hpos := parseZ_pos (rd l (pos : Int)) (l.drop (pos + 1))
        rw [← drop_rdU hlt, hn] at hpos
        have hq := hpos rfl
        have HQ := Aside0.mk (show 1 ≤ n ∧ pos + n ≤ l.length by simp [List.length_drop] at hq; omega)
        have HNX := Aside0.mk (show runesZ (l.drop pos) = (r : Int) :: runesZ (l.drop (pos + n)) by
          rw [drop_rdU hlt, runesZ_cons, ← drop_rdU hlt, hn, if_neg (by simp)]
          simp)
        clear hn hpos hq hr
        have HB1 := Aside0.mk (iter_next HB.out (pos + n))
        have HO1 := Aside0.mk (R_iterAt HO.out (Nat.lt_succ_self _) s (pos + n))
        have HS1 := Aside0.mk (show w.heap.size + 1 ≤ (wr.iterAt w.heap.size s (pos + n)).heap.size by have := HB1.out.size; rw [iter_size] at this; exact this)
        have HLO := Aside0.mk (show out.length ≤ 1000000 by have := HL.out; omega)
        go_wp2_with (first | ((with_reducible refine gate_builtin (b := .append) (xs := #[.tmp 21, .tmp 23]) rfl ?_); go_must (at_builtin); go_must (refine Kd.R_append (Kd.int .i32) (w0 := w.iter s (pos + n)) (w.heap.size + 1) rfl (.tmp 21) (.tmp 23) 31 21 (.int .i32 0) 4 rfl Try.underlying31 info21 rfl (by decide) (by omega) u3 out (r : Int) [.int .i32 (r : Int)] (fun _ => True) (fun _ => False) rfl rfl ?aP (fun _ hk => hk.elim) (fun _ _ => trivial) ?aO ?aB ?aS ?aL ?_); go_must (case aP => exact rfl); go_must (case aB => exact HB1.out); go_must (case aO => exact HO1.out); go_must (case aS => exact HS1.out); go_must (case aL => have := HLO.out; omega); intro vq wq ho hb hg hat; have HO2 := Aside0.mk ho; have HB2 := Aside0.mk hb; clear ho hb hg hat))
        go_roundg (l.length + 1 - (pos + n))
        case measure => have := HK.out; have := HQ.out; omega
        case rel => exact ⟨pos + n, out ++ [(r : Int)], HQ.out.2, ⟨rfl⟩, ⟨by have := HL.out; have := HQ.out; simp; omega⟩, ⟨by rw [HZ.out, HNX.out]; simp⟩, HO2, HB2⟩
    · obtain rfl : pos = l.length := by omega
      have hne := fun ty => Lib.run_next_end_at (P := Try.prog) wr w.heap.size s l.length ty hk (by rw [HSZ.out]; omega)
      have HF := Aside0.mk (show runesZ l = out by have := HZ.out; rw [List.drop_eq_nil_of_le (Nat.le_refl _), runesZ_nil, List.append_nil] at this; exact this)
      clear hp hlt
      go_wp2
      go_ret
      exact ⟨_, rfl, by rw [HF.out]; exact Kd.R_lower HO.out (Nat.le_succ _), iter_below HB.out⟩
end Go.Proofs.Ytglcopljhanhmaa
