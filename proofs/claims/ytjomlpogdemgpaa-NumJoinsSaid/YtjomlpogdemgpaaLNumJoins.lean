/- NumJoins holds: the bytes of rows of numbers, one behind the other, are those of both; a greater number has no fewer; cut short within a number they are refused. No condition. -/
import Derived.Test.YtjomlpogdemgpaaRows
import Derived.Test.YtjomlpogdemgpaaNumKnown
import Derived.Test.YtjomlpogdemgpaaOpn
import Derived.Test.YtjomlpogdemgpaaUng
import Derived.Deep.RegionHeld3
import Derived.BigQuiet
import Derived.Deep.QuietTactic
import Derived.ProofKit
import Derived.OpenShut
namespace Go.Proofs.Ytjomlpogdemgpaa
open Go.ChangeShapes Go.WideShapes Go.ChangeAt Go.RowKit Go.Proofs.YtjomlpogdemgpaaW.PrintWords Go.Proofs.YtjomlpogdemgpaaW.PrintLast Go.Proofs.YtjomlpogdemgpaaW.PrintMore
set_option linter.unusedVariables false
set_option linter.unusedSimpArgs false
attribute [local go_sem] max2_int min2_int max_two min_two
theorem wf_u64s {l : List Int} (h : ∀ x ∈ l, (Lit.int .u64 x).wf = true) : In64 l := fun x hx => by have := bounds_u64 (h x hx); omega
theorem info22 : (Try.prog.info? 22).map (fun i => (i.zero, i.size, i.bytes)) = some (some (.int .u64 0), 1, 8) := by kernel_rfl
theorem rSame_eq (A B : Option Addr) (c d : Nat) (a : List Int) (w : World) (hA : Kd.C (Kd.int .u8) w A a.length a) (hB : Kd.C (Kd.int .u8) w B a.length a) (ha : In8 a) :
    Calls Try.prog 25 #[.slice A a.length c, .slice B a.length d] w fun r w' => r = .returned (.bool true) ∧ w' = w := by
  have h := rSame_any A B c d a a w hA hB ha ha
  simpa using h
theorem Bytes_one (n : Int) (w : World) (g : Nat) (hg : g = w.heap.size) (h0 : 0 ≤ n) (h1 : n < 18446744073709551616) :
    Calls Try.prog 24 #[.slice (some ⟨g, 0, none⟩) 1 1] (w.alloc (.cells #[.int .u64 n] 22)) fun r w' => ∃ v, r = .returned v ∧ Kd.R (Kd.int .u8) 5 w' (w.heap.size + 1) (fun _ => True) v (encN n) ∧ Below (w.heap.size + 1) (w.alloc (.cells #[.int .u64 n] 22)) w' := by
  have h := Bytes_any (some ⟨g, 0, none⟩) 1 [n] (w.alloc (.cells #[.int .u64 n] 22)) (C_lit_at .u64 _ _ [n] hg (by simp)) (In64.cons h0 h1 In64.nil) (by simp)
  have e : encAll [n] = encN n := by simp [encAll]
  rw [e] at h
  simpa using h
/-- A row that is read, under any name of its length. -/
theorem Bytes_n (A : Option Addr) (c n : Nat) (l : List Int) (w : World) (hn : l.length = n) (hC : Kd.C (Kd.int .u64) w A l.length l) (h64 : In64 l) (hlen : l.length ≤ 1000000) :
    Calls Try.prog 24 #[.slice A n c] w fun r w' => ∃ A' c', r = .returned (.slice A' (encAll l).length c') ∧ Kd.C (Kd.int .u8) w' A' (encAll l).length (encAll l) ∧ Below w.heap.size w w' := by
  subst hn
  refine (Bytes_any A c l w hC h64 hlen).mono ?_
  rintro r w' ⟨v, rfl, hR, hb⟩
  obtain ⟨A', c', rfl, -, hC'⟩ := Kd.R_reads hR
  exact ⟨A', c', rfl, hC', hb⟩

set_option maxRecDepth 100000 in
set_option maxHeartbeats 4000000 in
theorem walk_NumJoins (A : Option Addr) (c : Nat) (l : List Int) (B : Option Addr) (d : Nat) (l' : List Int) (n m q : Int) (w : World) (hC : Kd.C (Kd.int .u64) w A l.length l) (hc : l.length ≤ c) (hq : ∀ x ∈ l, (Lit.int .u64 x).wf = true)
    (hC' : Kd.C (Kd.int .u64) w B l'.length l') (hc' : l'.length ≤ d) (hq' : ∀ x ∈ l', (Lit.int .u64 x).wf = true) (hn : (Lit.int .u64 n).wf = true) (hm : (Lit.int .u64 m).wf = true) (hcu : (Lit.int .i64 q).wf = true) :
    Calls Try.prog 7 #[.slice A l.length c, .slice B l'.length d, .int .u64 n, .int .u64 m, .int .i64 q] w fun r w' => r = .returned (.bool true) ∧ Below w.heap.size w w' := by
  have h64 := wf_u64s hq
  have h64' := wf_u64s hq'
  obtain ⟨n0, n1⟩ := bounds_u64 hn
  obtain ⟨m0, m1⟩ := bounds_u64 hm
  obtain ⟨k1, hk1⟩ : ∃ k, k = min l.length 20 := ⟨_, rfl⟩
  obtain ⟨k2, hk2⟩ : ∃ k, k = min l'.length 20 := ⟨_, rfl⟩
  obtain ⟨hcut, hread, hlen⟩ := cut_take (P := Try.prog) (Kd.int .u64) 40 22 .i64 Try.underlying40 info22 A c l (k1 : Int) (by omega) (by omega) hc
  obtain ⟨hcut', hread', hlen'⟩ := cut_take (P := Try.prog) (Kd.int .u64) 40 22 .i64 Try.underlying40 info22 B d l' (k2 : Int) (by omega) (by omega) hc'
  have hmin : (if (20 : Int) < (l.length : Int) then (20 : Int) else (l.length : Int)) = (k1 : Int) := by split <;> omega
  have hmin' : (if (20 : Int) < (l'.length : Int) then (20 : Int) else (l'.length : Int)) = (k2 : Int) := by split <;> omega
  have hl : (l.take k1).length = k1 := by rw [List.length_take]; omega
  have hl' : (l'.take k2).length = k2 := by rw [List.length_take]; omega
  simp only [Int.toNat_natCast] at hcut hread hlen hcut' hread' hlen'
  have hC2 := hread w hC
  have hC2' := hread' w hC'
  have h642 := h64.take k1
  have h642' := h64'.take k2
  have hk20 : k1 ≤ 20 := by omega
  have hk20' : k2 ≤ 20 := by omega
  clear hC hread h64 hk1 hq hC' hread' h64' hk2 hq' hn hm hcu
  generalize l.take k1 = L at *
  generalize l'.take k2 = M at *
  obtain rfl : k1 = L.length := hl.symm
  obtain rfl : k2 = M.length := hl'.symm
  clear hl hl'
  -- the smaller and the greater number; the cut
  obtain ⟨lo, hlo⟩ : ∃ lo, lo = (if m < n then m else n) := ⟨_, rfl⟩
  obtain ⟨hi, hhi⟩ : ∃ hi, hi = (if n < m then m else n) := ⟨_, rfl⟩
  have hlo1 : 0 ≤ lo ∧ lo < 18446744073709551616 := by rw [hlo]; split <;> omega
  have hhi1 : 0 ≤ hi ∧ hi < 18446744073709551616 := by rw [hhi]; split <;> omega
  have hlh : lo ≤ hi := by rw [hlo, hhi]; split <;> split <;> omega
  have HLO := fun W => Aside0.mk (Size_any lo W hlo1.1 hlo1.2)
  have HHI := fun W => Aside0.mk (Size_any hi W hhi1.1 hhi1.2)
  have hsz : decide ((encN hi).length < (encN lo).length) = false := decide_eq_false (by have := encN_mono lo hi hlh; omega)
  have hpos := encN_pos n
  have h10 := encN_len10 n (by omega)
  obtain ⟨u, hu⟩ : ∃ u, u = (IntKind.u64.wrap q) % ((encN n).length : Int) := ⟨_, rfl⟩
  have hu0 : 0 ≤ u := by rw [hu]; exact Int.emod_nonneg _ (by omega)
  have hu1 : u < (encN n).length := by rw [hu]; exact Int.emod_lt_of_pos _ (by omega)
  have hen8 := encN_in8 n n0
  have hshort : rdNum 0 0 ((encN n).take u.toNat) = (0, 0, 4) := rdNum_short n u.toNat 0 0 n0 (by decide) (by omega) (by simpa using (show n < 18446744073709551616 by omega)) (by omega)
  have HX8 := Aside0.mk (encAll_in8 (fun x hx => (h642 x hx).1))
  have HY8 := Aside0.mk (encAll_in8 (fun x hx => (h642' x hx).1))
  have HXL := Aside0.mk (encAll_len h642)
  have HYL := Aside0.mk (encAll_len h642')
  have HLO := Aside0.mk HLO
  have HHI := Aside0.mk HHI
  have HN := Aside0.mk (show 0 ≤ n ∧ n < 18446744073709551616 from ⟨n0, by omega⟩)
  have HE8 := Aside0.mk hen8
  have HSH := Aside0.mk hshort
  have HEL := Aside0.mk (show ((encN n).take u.toNat).length = u.toNat by rw [List.length_take]; omega)
  obtain ⟨qq, hqq⟩ : ∃ qq, IntKind.u64.wrap q = qq := ⟨_, rfl⟩
  have hqq0 : 0 ≤ qq := by rw [← hqq, IntKind.wrap_u64]; omega
  have hqq1 : qq ≤ 18446744073709551615 := by rw [← hqq, IntKind.wrap_u64]; omega
  rw [hqq] at hu
  have hmod : qq % ((encN n).length : Int) = u := hu.symm
  have hz0 : (((encN n).length : Int) == 0) = false := by rw [beq_eq_false_iff_ne]; omega
  have hlo' : (if m < n then m else n) = lo := hlo.symm
  have hhi' : (if n < m then m else n) = hi := hhi.symm
  clear hu hshort hen8 hlh hlo1 hhi1 hlo hhi n0 n1 m0 m1
  have HCA := Aside0.mk hC2
  have HCB := Aside0.mk hC2'
  have H64 := Aside0.mk h642
  have H64' := Aside0.mk h642'
  go_enter Try.func7, Try.ntmps7
  go_wp2
  refine start_ (n := 12) (S := fun w' => True) (ds := []) #[false, false, false, false, false, false, false, false, false, false, false, false] (by kernel_rfl) rfl rfl trivial (fun hHeld => ?_)
  refine pure_ (i := 0) (N := some 18) (v := ?_) (a' := ?_) #[true, false, false, false, false, false, false, false, false, false, false, false] rfl rfl (by kernel_rfl) (fun _ _ _ h => h) (Or.inl ⟨by rfl, ?_⟩) ?_ ?_
  rotate_left
  · intro w'
    go_simp
    with_reducible rfl
  rotate_left
  · simp only [Act.put, List.setIfInBounds_toArray, List.set_cons_zero, List.set_cons_succ, i64_w, i32_w]
    rfl
  refine pure_ (i := 1) (N := some 19) (v := ?_) (a' := ?_) #[true, true, false, false, false, false, false, false, false, false, false, false] rfl rfl (by kernel_rfl) (fun _ _ _ h => h) (Or.inl ⟨by rfl, ?_⟩) ?_ ?_
  rotate_left
  · intro w'
    go_simp
    with_reducible rfl
  rotate_left
  · simp only [Act.put, List.setIfInBounds_toArray, List.set_cons_zero, List.set_cons_succ, i64_w, i32_w]
    rfl
  refine pure_ (i := 2) (N := some 20) (v := ?_) (a' := ?_) #[true, true, true, false, false, false, false, false, false, false, false, false] rfl rfl (by kernel_rfl) (fun _ _ _ h => h) (Or.inl ⟨by rfl, ?_⟩) ?_ ?_
  rotate_left
  · intro w'
    go_simp
    with_reducible rfl
  rotate_left
  · simp only [Act.put, List.setIfInBounds_toArray, List.set_cons_zero, List.set_cons_succ, i64_w, i32_w]
    rfl
  refine pure_ (i := 3) (N := some 21) (v := ?_) (a' := ?_) #[true, true, true, true, false, false, false, false, false, false, false, false] rfl rfl (by kernel_rfl) (fun _ _ _ h => h) (Or.inl ⟨by rfl, ?_⟩) ?_ ?_
  rotate_left
  · intro w'
    go_simp
    with_reducible rfl
  rotate_left
  · simp only [Act.put, List.setIfInBounds_toArray, List.set_cons_zero, List.set_cons_succ, i64_w, i32_w]
    rfl
  refine pure_ (i := 4) (N := some 22) (v := ?_) (a' := ?_) #[true, true, true, true, true, false, false, false, false, false, false, false] rfl rfl (by kernel_rfl) (fun _ _ _ h => h) (Or.inl ⟨by rfl, ?_⟩) ?_ ?_
  rotate_left
  · intro w'
    go_simp
    with_reducible rfl
  rotate_left
  · simp only [Act.put, List.setIfInBounds_toArray, List.set_cons_zero, List.set_cons_succ, i64_w, i32_w]
    rfl
  refine pure_ (i := 5) (N := some 23) (v := ?_) (a' := ?_) #[true, true, true, true, true, true, false, false, false, false, false, false] rfl rfl (by kernel_rfl) (fun _ _ _ h => h) (Or.inl ⟨by rfl, ?_⟩) ?_ ?_
  rotate_left
  · intro w'
    go_simp
    with_reducible rfl
  rotate_left
  · simp only [Act.put, List.setIfInBounds_toArray, List.set_cons_zero, List.set_cons_succ, i64_w, i32_w]
    rfl
  refine pure_ (i := 6) (N := some 24) (v := ?_) (a' := ?_) #[true, true, true, true, true, true, true, false, false, false, false, false] rfl rfl (by kernel_rfl) (fun _ _ _ h => h) (Or.inl ⟨by rfl, ?_⟩) ?_ ?_
  rotate_left
  · intro w'
    go_simp
    with_reducible rfl
  rotate_left
  · simp only [Act.put, List.setIfInBounds_toArray, List.set_cons_zero, List.set_cons_succ, i64_w, i32_w]
    rfl
  refine pure_ (i := 7) (N := some 25) (v := ?_) (a' := ?_) #[true, true, true, true, true, true, true, true, false, false, false, false] rfl rfl (by kernel_rfl) (fun _ _ _ h => h) (Or.inl ⟨by rfl, ?_⟩) ?_ ?_
  rotate_left
  · intro w'
    go_simp
    with_reducible rfl
  rotate_left
  · simp only [Act.put, List.setIfInBounds_toArray, List.set_cons_zero, List.set_cons_succ, i64_w, i32_w]
    rfl
  refine pure_ (i := 8) (N := some 26) (v := ?_) (a' := ?_) #[true, true, true, true, true, true, true, true, true, false, false, false] rfl rfl (by kernel_rfl) (fun _ _ _ h => h) (Or.inl ⟨by rfl, ?_⟩) ?_ ?_
  rotate_left
  · intro w'
    go_simp
    with_reducible rfl
  rotate_left
  · simp only [Act.put, List.setIfInBounds_toArray, List.set_cons_zero, List.set_cons_succ, i64_w, i32_w]
    rfl
  refine pure_ (i := 9) (N := some 27) (v := ?_) (a' := ?_) #[true, true, true, true, true, true, true, true, true, true, false, false] rfl rfl (by kernel_rfl) (fun _ _ _ h => h) (Or.inl ⟨by rfl, ?_⟩) ?_ ?_
  rotate_left
  · intro w'
    go_simp
    with_reducible rfl
  rotate_left
  · simp only [Act.put, List.setIfInBounds_toArray, List.set_cons_zero, List.set_cons_succ, i64_w, i32_w]
    rfl
  refine pure_ (i := 10) (N := some 0) (v := ?_) (a' := ?_) #[true, true, true, true, true, true, true, true, true, true, true, false] rfl rfl (by kernel_rfl) (fun _ _ _ h => h) (Or.inl ⟨by rfl, ?_⟩) ?_ ?_
  rotate_left
  · intro w'
    go_simp
    with_reducible rfl
  rotate_left
  · simp only [Act.put, List.setIfInBounds_toArray, List.set_cons_zero, List.set_cons_succ, i64_w, i32_w]
    rfl
  refine pure_ (i := 11) (N := some 1) (v := ?_) (a' := ?_) #[true, true, true, true, true, true, true, true, true, true, true, true] rfl rfl (by kernel_rfl) (fun _ _ _ h => h) (Or.inl ⟨by rfl, ?_⟩) ?_ ?_
  rotate_left
  · intro w'
    go_simp
    with_reducible rfl
  rotate_left
  · simp only [Act.put, List.setIfInBounds_toArray, List.set_cons_zero, List.set_cons_succ, i64_w, i32_w]
    rfl
  refine done_ (by kernel_rfl) ?_
  clear hcut hcut' hmin hmin' hC2 hC2' h642 h642' hc hc' hlen hlen'
  go_wp2_with (first | (go_at_call 24; (with_reducible refine (Bytes_n A c L.length L w.drew rfl (Kd.C_drew HCA.out) H64.out (by omega)).mono ?_); rintro r w1 ⟨A1, c1, rfl, hC1, hb1⟩; have H1 := Aside0.mk (And.intro hC1 hb1); have HCB1 := Aside0.mk (C_below0 (Kd.C_drew HCB.out) hb1); clear hC1 hb1) | (go_at_call 24; (with_reducible refine (Bytes_n B d M.length M w1 rfl HCB1.out H64'.out (by omega)).mono ?_); rintro r w2 ⟨A2, c2, rfl, hC2, hb2⟩; have H2 := Aside0.mk (And.intro hC2 hb2); clear hC2 hb2) | ((with_reducible refine gate_builtin (b := .append) (xs := #[.tmp 32, .tmp 33]) rfl ?_); at_builtin; (first | (refine unguard (by rfl) ?_; dsimp only) | skip); refine Kd.R_append_rows (Kd.int .u64) (w0 := w2) w2.heap.size rfl (.tmp 32) (.tmp 33) 40 22 (.int .u64 0) 8 rfl Try.underlying40 info22 rfl (by decide) (by omega) _ ([] : List Int) L _ _ _ (fun _ => True) (fun _ => False) rfl rfl ?aO ?aR (fun _ _ h => h) (fun _ h => h.elim) (fun _ _ => trivial) ?aB ?aS ?aL ?_; (case aO => exact (R_lit_at .u64 (W := w2) w2.heap.size 22 _ [] rfl (Nat.le_refl _) (by simp))); (case aR => exact (Kd.C_alloc (C_below0 (C_below0 (Kd.C_drew HCA.out) H1.out.2) H2.out.2) _)); (case aB => exact (below_alloc (Below.refl _ _) _)); (case aS => exact (Below.size (below_alloc (Below.refl _ _) _))); (case aL => simp; omega); intro vP1 wP1 ho hb hg hat; (try simp only [List.nil_append] at ho); have P1 := Aside0.mk (And.intro ho hb); clear ho hb hg hat) | (((with_reducible refine gate_builtin (b := .append) (xs := #[.tmp 34, .tmp 35]) rfl ?_); at_builtin; (first | (refine unguard (by rfl) ?_; dsimp only) | skip); refine Kd.R_append_rows (Kd.int .u64) (w0 := w2) w2.heap.size rfl (.tmp 34) (.tmp 35) 40 22 (.int .u64 0) 8 rfl Try.underlying40 info22 rfl (by decide) (by omega) _ L M _ _ _ (fun _ => True) (fun _ => False) rfl rfl ?aO ?aR (fun _ _ h => h) (fun _ h => h.elim) (fun _ _ => trivial) ?aB ?aS ?aL ?_; (case aO => exact P1.out.1); (case aR => exact (C_below0 (C_below0 HCB1.out H2.out.2) P1.out.2)); (case aB => exact P1.out.2); (case aS => exact (Below.size P1.out.2)); (case aL => omega); intro vP2 wP2 ho hb hg hat; (try simp only [List.nil_append] at ho); have P2 := Aside0.mk (And.intro ho hb); clear ho hb hg hat); obtain ⟨A3, c3, e3, -, hC3⟩ := Kd.R_reads P2.out.1; rw [List.length_append] at e3; subst e3; have H3 := Aside0.mk hC3; clear hC3) | (go_at_call 24; (with_reducible refine (Bytes_n A3 c3 (L.length + M.length) (L ++ M) wP2 (by rw [List.length_append]) H3.out (H64.out.append H64'.out) (by rw [List.length_append]; omega)).mono ?_); rintro r w5 ⟨A4, c4, e4, hC4, hb5⟩; rw [encAll_append, List.length_append] at e4; subst e4; rw [encAll_append] at hC4; have H5 := Aside0.mk (And.intro hC4 hb5); clear hC4 hb5) | (go_at_call 24; (with_reducible refine (Bytes_one n w5 w5.heap.size rfl HN.out.1 HN.out.2).mono ?_); rintro r w6 ⟨v, rfl, hR6, hb6⟩; obtain ⟨A6, c6, rfl, hc6, hC6⟩ := Kd.R_reads hR6; obtain ⟨hcut3, hread3, hlen3⟩ := cut_take (P := Try.prog) (Kd.int .u8) 29 5 .i64 Try.underlying29 info5 A6 c6 (encN n) u hu0 (by omega) hc6; rw [HEL.out] at hcut3; have H6 := Aside0.mk (And.intro hC6 (And.intro (hread3 _ hC6) (show Below w5.heap.size w5 w6 from below_step (below_alloc (Below.refl _ _) _) (by simpa using hb6)))); clear hC6 hread3 hR6 hb6) | ((with_reducible refine gate_builtin (b := .append) (xs := #[.tmp 46, .tmp 47]) rfl ?_); at_builtin; (first | (refine unguard (by rfl) ?_; dsimp only) | skip); refine Kd.R_append_rows (Kd.int .u8) (w0 := w6) w6.heap.size rfl (.tmp 46) (.tmp 47) 29 5 (.int .u8 0) 1 rfl Try.underlying29 info5 rfl (by decide) (by omega) _ ([] : List Int) (encAll L) _ _ _ (fun _ => True) (fun _ => False) rfl rfl ?aO ?aR (fun _ _ h => h) (fun _ h => h.elim) (fun _ _ => trivial) ?aB ?aS ?aL ?_; (case aO => exact (R_lit_at .u8 (W := w6) w6.heap.size 5 _ [] rfl (Nat.le_refl _) (by simp))); (case aR => exact (Kd.C_alloc (C_below0 (C_below0 (C_below0 (C_below0 H1.out.1 H2.out.2) P2.out.2) H5.out.2) H6.out.2.2) _)); (case aB => exact (below_alloc (Below.refl _ _) _)); (case aS => exact (Below.size (below_alloc (Below.refl _ _) _))); (case aL => have := HXL.out; simp; omega); intro vP3 wP3 ho hb hg hat; (try simp only [List.nil_append] at ho); have P3 := Aside0.mk (And.intro ho hb); clear ho hb hg hat) | (((with_reducible refine gate_builtin (b := .append) (xs := #[.tmp 48, .tmp 49]) rfl ?_); at_builtin; (first | (refine unguard (by rfl) ?_; dsimp only) | skip); refine Kd.R_append_rows (Kd.int .u8) (w0 := w6) w6.heap.size rfl (.tmp 48) (.tmp 49) 29 5 (.int .u8 0) 1 rfl Try.underlying29 info5 rfl (by decide) (by omega) _ (encAll L) (encAll M) _ _ _ (fun _ => True) (fun _ => False) rfl rfl ?aO ?aR (fun _ _ h => h) (fun _ h => h.elim) (fun _ _ => trivial) ?aB ?aS ?aL ?_; (case aO => exact P3.out.1); (case aR => exact (C_below0 (C_below0 (C_below0 (C_below0 H2.out.1 P2.out.2) H5.out.2) H6.out.2.2) P3.out.2)); (case aB => exact P3.out.2); (case aS => exact (Below.size P3.out.2)); (case aL => have := HXL.out; have := HYL.out; omega); intro vP4 wP4 ho hb hg hat; (try simp only [List.nil_append] at ho); have P4 := Aside0.mk (And.intro ho hb); clear ho hb hg hat); obtain ⟨A8, c8, e8, -, hC8⟩ := Kd.R_reads P4.out.1; rw [List.length_append] at e8; subst e8; have HS := rSame_eq A4 A8 c4 c8 (encAll L ++ encAll M) wP4 (C_below0 (C_below0 H5.out.1 H6.out.2.2) P4.out.2) hC8 (HX8.out.append HY8.out); rw [List.length_append] at HS; replace HS := Aside0.mk HS; have HRD := Read_of A6 c6 ((encN n).take u.toNat) wP4 0 0 4 (C_below0 H6.out.2.1 P4.out.2) (HE8.out.take _) HSH.out; rw [HEL.out] at HRD; replace HRD := Aside0.mk HRD; clear hC8) | (go_at_call 25; refine HS.out.mono ?_; rintro r w9 ⟨rfl, hw⟩; obtain rfl := hw.symm) | (go_at_call 28; (with_reducible refine ((HLO.out _).out).mono ?_); rintro r w9 ⟨rfl, hw⟩; obtain rfl := hw.symm) | (go_at_call 28; (with_reducible refine ((HHI.out _).out).mono ?_); rintro r w9 ⟨rfl, hw⟩; obtain rfl := hw.symm) | (go_at_call 27; refine HRD.out.mono ?_; rintro r w9 ⟨rfl, hw⟩; obtain rfl := hw.symm) | (go_at_call 15; refine (known_any _).mono ?_; rintro r w9 ⟨rfl, hb⟩; have HK := Aside0.mk hb; clear hb))
  go_outline
  go_ret
  exact ⟨rfl, below_step (below_step (below_step (below_step (below_step (below_step (below_step (below_drew (Below.refl _ _)) H1.out.2) H2.out.2) P2.out.2) H5.out.2) H6.out.2.2) P4.out.2) HK.out⟩
theorem own_NumJoins : ownKnob Try.prog.godebug = none := by kernel_rfl
theorem laidOut_NumJoins : laidOutB Try.prog = true := by kernel_rfl
set_option maxRecDepth 100000 in
theorem lifted_NumJoins (os : Os) (started : os.Started) (H : Type) (enc : TypeId × Value → H) :
    ReturnsInHanded {} Try.checked os 7 .any (Rows.numJoinsSpec.pre6 enc Try.prog Try.f7 Rows.numJoinsRow.domain false) (Rows.numJoinsSpec.post enc Try.prog Try.f7 false true false false) := by
  refine returnsInHanded_of_change (C := Try.checked) own_NumJoins started (by kernel_rfl) Try.func7
    (ChangeSpec.witness6 (enc := enc) (C := Try.checked) false ⟨#[], #[.slice none 0 0, .slice none 0 0, .int .u64 0, .int .u64 0, .int .i64 0], []⟩ 8 (by kernel_rfl) (by kernel_rfl) (by kernel_rfl) (by kernel_rfl)) ?_
  intro W base args ds gs before hval0 hW hcnd _
  have hval : ∀ (j : Nat) t v, Try.f7.params[j]? = some t → args[j]? = some v → Value.okWide Try.prog W .any base t v := hval0
  have hW' := hW
  obtain ⟨p, q, hA0, hV, rfl, hfz, hnd⟩ := hW
  have hA : DataW.TrodAll enc Try.prog W 0 (fun _ => true) true Try.f7.params.toList args.toList ds p := hA0
  rw [Try.params7] at hA hval
  obtain ⟨v0, vs0, d0, ds0, p0, q0, hargs, rfl, rfl, h0, r0⟩ := trodAll_cons hA
  obtain ⟨v1, vs1, d1, ds1, p1, q1, rfl, rfl, rfl, h1, r1⟩ := trodAll_cons r0
  obtain ⟨v2, vs2, d2, ds2, p2, q2, rfl, rfl, rfl, h2, r2⟩ := trodAll_cons r1
  obtain ⟨v3, vs3, d3, ds3, p3, q3, rfl, rfl, rfl, h3, r3⟩ := trodAll_cons r2
  obtain ⟨v4, vs4, d4, ds4, p4, q4, rfl, rfl, rfl, h4, r4⟩ := trodAll_cons r3
  obtain ⟨rfl, rfl, rfl⟩ := trodAll_nil r4
  obtain rfl : args = #[v0, v1, v2, v3, v4] := by cases args; simp_all
  obtain ⟨rfl, rfl⟩ := trodVars_none hV
  obtain ⟨a0, len0, cap0, rfl⟩ := okWide_slice Try.underlying40 (hval 0 40 v0 rfl rfl)
  have k0 := h0
  have lt0 : ∀ x ∈ p0, x.block < W.heap.size := by obtain ⟨m, hm⟩ := k0; exact DataW.trod_lt m _ _ _ hm
  obtain ⟨l0, rfl, hC0, hc0, hq0⟩ := open_sl (Opn.slice (d := Kd.int .u64) Try.underlying40 (by kernel_rfl) (Opn.int Try.underlying22)) h0
  obtain ⟨a1, len1, cap1, rfl⟩ := okWide_slice Try.underlying40 (hval 1 40 v1 rfl rfl)
  have k1 := h1
  have lt1 : ∀ x ∈ p1, x.block < W.heap.size := by obtain ⟨m, hm⟩ := k1; exact DataW.trod_lt m _ _ _ hm
  obtain ⟨l1, rfl, hC1, hc1, hq1⟩ := open_sl (Opn.slice (d := Kd.int .u64) Try.underlying40 (by kernel_rfl) (Opn.int Try.underlying22)) h1
  obtain ⟨a2, rfl, rfl, rfl, w2⟩ := open_int Try.underlying22 (hval 2 22 v2 rfl rfl) h2
  obtain ⟨a3, rfl, rfl, rfl, w3⟩ := open_int Try.underlying22 (hval 3 22 v3 rfl rfl) h3
  obtain ⟨a4, rfl, rfl, rfl, w4⟩ := open_int Try.underlying3 (hval 4 3 v4 rfl rfl) h4
  refine (walk_NumJoins a0 cap0 l0 a1 cap1 l1 a2 a3 a4 W hC0 hc0 hq0 hC1 hc1 hq1 w2 w3 w4).mono fun e W' ⟨he, bel⟩ => ?_
  subst he
  exact ⟨_, rfl, _, _, _, [], _, [], hW', trodAll_mk1 (shut_bool Try.underlying4 _), (trodAll_cons_mk (Below.trod laidOut_NumJoins (by kernel_rfl) (of_decide_eq_true (by kernel_rfl)) k0 bel lt0) (trodAll_cons_mk (Below.trod laidOut_NumJoins (by kernel_rfl) (of_decide_eq_true (by kernel_rfl)) k1 bel lt1) (trodAll_cons_mk (shut_int Try.underlying22 w2) (trodAll_cons_mk (shut_int Try.underlying22 w3) (trodAll_cons_mk (shut_int Try.underlying3 w4) trodAll_mk0))))), rfl, bel.frame _, fun h => by cases h⟩
/-- The row. -/
theorem NumJoins_holds : Rows.NumJoinsSaid :=
  OpenClaim.holds_of_wide 7 Try.f7 rfl rfl rfl rfl rfl rfl rfl ⟨rfl, rfl, rfl, rfl, rfl⟩ rfl rfl rfl rfl rfl (by kernel_rfl) Try.func7 (by kernel_rfl)
    (of_decide_eq_true (by kernel_rfl)) (by unfold Func.isWrapper; first | (rw [if_pos (by decide +kernel)]; kernel_rfl) | (rw [if_neg (by decide +kernel)]; exact ⟨rfl, rfl⟩))
    (fun os started H enc _ => lifted_NumJoins os started H enc)
#print axioms NumJoins_holds
end Go.Proofs.Ytjomlpogdemgpaa
