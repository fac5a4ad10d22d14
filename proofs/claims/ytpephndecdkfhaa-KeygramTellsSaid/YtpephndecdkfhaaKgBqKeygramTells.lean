/- KeygramTells: what its proof leads to. No condition. -/
import Derived.Test.YtpephndecdkfhaaKgAqKeygramTells
import Derived.Test.YtpephndecdkfhaaLitqKeygramTells
namespace Go.Proofs.Ytpephndecdkfhaa
open Go.RowKit Go.Proofs.YtpephndecdkfhaaW.PrintWords Go.Proofs.YtpephndecdkfhaaW.PrintLast Go.Proofs.YtpephndecdkfhaaW.PrintMore
set_option linter.unusedVariables false
set_option linter.unusedSimpArgs false
/-- What is wrong with keys. -/
def kerr : List (List Int) → Int
  | [] => 0
  | k :: t => if k.length = 0 then 3 else if k.length > 8 then 2 else kerr t
/-- What is wrong with a gram. -/
def gcheck (r c f : Int) (keys : List (List Int)) : Int :=
  if ¬ (1 ≤ r ∧ r ≤ 512) ∨ ¬ (1 ≤ c ∧ c ≤ 512) then 11 else if f = 0 then 5 else if keys.length > 64 then 6 else if kerr keys ≠ 0 then kerr keys
  else if 0 < keys.length ∧ f > 18446744073709551615 - ((keys.length : Int) - 1) then 5 else 0
def gkey (k : List Int) : List Int := encN k.length ++ k
/-- The bytes of a right gram. -/
def gbytes (a s r c f : Int) (keys : List (List Int)) : List Int := [75] ++ encAll [a, s, r, c, f, (keys.length : Int)] ++ keys.flatMap gkey
theorem kerr_ok : ∀ {keys : List (List Int)}, kerr keys = 0 → ∀ k ∈ keys, 1 ≤ k.length ∧ k.length ≤ 8
  | [], _, k, hk => by cases hk
  | x :: t, h, k, hk => by
    unfold kerr at h
    by_cases h1 : x.length = 0
    · rw [if_pos h1] at h; cases h
    · rw [if_neg h1] at h
      by_cases h2 : x.length > 8
      · rw [if_pos h2] at h; cases h
      · rw [if_neg h2] at h
        rcases List.mem_cons.1 hk with rfl | hk
        · omega
        · exact kerr_ok h k hk
theorem gcheck_ok {r c f : Int} {keys : List (List Int)} (h : gcheck r c f keys = 0) : (1 ≤ r ∧ r ≤ 512) ∧ (1 ≤ c ∧ c ≤ 512) ∧ f ≠ 0 ∧ keys.length ≤ 64 ∧ (∀ k ∈ keys, 1 ≤ k.length ∧ k.length ≤ 8) ∧ (0 < keys.length → f ≤ 18446744073709551615 - ((keys.length : Int) - 1)) := by
  unfold gcheck at h
  by_cases h1 : ¬ (1 ≤ r ∧ r ≤ 512) ∨ ¬ (1 ≤ c ∧ c ≤ 512)
  · rw [if_pos h1] at h; cases h
  rw [if_neg h1] at h
  by_cases h2 : f = 0
  · rw [if_pos h2] at h; cases h
  rw [if_neg h2] at h
  by_cases h3 : keys.length > 64
  · rw [if_pos h3] at h; cases h
  rw [if_neg h3] at h
  by_cases h4 : kerr keys ≠ 0
  · rw [if_pos h4] at h; exact absurd h h4
  rw [if_neg h4] at h
  by_cases h5 : 0 < keys.length ∧ f > 18446744073709551615 - ((keys.length : Int) - 1)
  · rw [if_pos h5] at h; cases h
  exact ⟨by omega, by omega, h2, by omega, kerr_ok (by omega), fun hp => by omega⟩
theorem gkeys_len {keys : List (List Int)} (h : ∀ k ∈ keys, 1 ≤ k.length ∧ k.length ≤ 8) : (keys.flatMap gkey).length ≤ 18 * keys.length := by
  induction keys with
  | nil => simp
  | cons k t ih =>
    have := ih (fun x hx => h x (by simp [hx]))
    have hk := h k (by simp)
    have he := encN_len10 (k.length : Int) (by omega)
    rw [List.flatMap_cons, List.length_append, List.length_cons]
    unfold gkey at *
    rw [List.length_append]
    omega
theorem encAll_one (x : Int) : encAll [x] = encN x := by simp [encAll]
theorem take_flat {keys : List (List Int)} {i : Nat} (h : i < keys.length) : (keys.take (i + 1)).flatMap gkey = (keys.take i).flatMap gkey ++ gkey keys[i] := by
  rw [List.take_add_one, List.getElem?_eq_getElem h, List.flatMap_append]
  simp
theorem lit_ne (k : IntKind) {W : World} (base e g : Nat) (xs : List Int) (hbase : base ≤ W.heap.size) (hm : xs.length ≤ 9223372036854775807) (hne : W.heap.size ≠ g) :
    (Kd.int k).R e (W.alloc (.cells (nums k xs).toArray e)) base (fun q => q ≠ g) (.slice (some ⟨W.heap.size, 0, none⟩) xs.length xs.length) xs := by
  refine R_lit0 (Kd.int k) base e (okp := fun _ => False) ⟨by rw [nums_length]; simp [Kd.int, Kd.scalar], fun j p hj => ?_⟩ (fun _ h => h.elim) hne hbase hm (fun _ h => h.elim)
  obtain ⟨hl, hp⟩ := List.getElem?_eq_some_iff.1 hj
  have hl' : j < (nums k xs).length := by rw [nums_length]; exact hl
  show _ = _
  simp only [Kd.int, Kd.scalar, Nat.mul_one]
  rw [List.drop_eq_getElem_cons hl']
  simp [nums, hp]
theorem lit_C (k : IntKind) {W : World} (e : Nat) (xs : List Int) (hm : xs.length ≤ 9223372036854775807) : (Kd.int k).C (W.alloc (.cells (nums k xs).toArray e)) (some ⟨W.heap.size, 0, none⟩) xs.length xs := by
  obtain ⟨A, c, he, -, hC⟩ := Kd.R_reads (R_lit_int k (W := W) W.heap.size e xs (Nat.le_refl _) hm)
  injection he with h1 h2 h3
  rw [h1]; exact hC
theorem box_next (w : World) (o1 o2 : Obj) : ((w.alloc o1).alloc o2).heap[w.heap.size + 1]? = some o2 := by
  have := blk_new (w.alloc o1) o2
  rwa [show (w.alloc o1).heap.size = w.heap.size + 1 from Array.size_push _] at this
theorem box6 {w w1 : World} {v0 v1 v2 v3 v4 v5 : Value} {T : TypeId} (hb : Below (w.alloc (.cells #[v0, v1, v2, v3, v4, v5] T)).heap.size (w.alloc (.cells #[v0, v1, v2, v3, v4, v5] T)) w1) :
    w1.cell? ⟨w.heap.size, 0, none⟩ = some v0 ∧ w1.cell? ⟨w.heap.size, 1, none⟩ = some v1 ∧ w1.cell? ⟨w.heap.size, 2, none⟩ = some v2 ∧ w1.cell? ⟨w.heap.size, 3, none⟩ = some v3 ∧ w1.cell? ⟨w.heap.size, 4, none⟩ = some v4 ∧ w1.cell? ⟨w.heap.size, 5, none⟩ = some v5 ∧ w.heap.size < w1.heap.size := by
  have hs := hb.size
  have hlt : w.heap.size < (w.alloc (.cells #[v0, v1, v2, v3, v4, v5] T)).heap.size := by simp
  have k : ∀ o, w1.cell? ⟨w.heap.size, o, none⟩ = (w.alloc (.cells #[v0, v1, v2, v3, v4, v5] T)).cell? ⟨w.heap.size, o, none⟩ := fun o => hb.cell (p := ⟨w.heap.size, o, none⟩) hlt
  simp only [k]
  refine ⟨by simp, by simp, by simp, by simp, by simp, by simp, by omega⟩
set_option maxRecDepth 100000 in
set_option maxHeartbeats 4000000 in
theorem kgBytes_any (hCk : ∀ (a s r c f : Int) (A : Option Addr) (cc : Nat) (keys : List (List Int)) (w : World), Kd.C (Kd.slice 5 (Kd.int .u8)) w A keys.length keys → keys.length ≤ cc → keys.length < 1000000 → 0 ≤ f → f < 18446744073709551616 →
      Calls Try.prog 40 #[.agg #[.int .u64 a, .int .u64 s, .int .i64 r, .int .i64 c, .int .u64 f, .slice A keys.length cc]] w fun e w' => e = .returned (.int .i64 (gcheck r c f keys)) ∧ Below w.heap.size w w')
    (a s r c f : Int) (A : Option Addr) (cc : Nat) (keys : List (List Int)) (w : World) (hC : Kd.C (Kd.slice 5 (Kd.int .u8)) w A keys.length keys) (hc : keys.length ≤ cc) (hl : keys.length < 1000000)
    (ha : 0 ≤ a ∧ a < 18446744073709551616) (hs : 0 ≤ s ∧ s < 18446744073709551616) (hf : 0 ≤ f ∧ f < 18446744073709551616) :
    Calls Try.prog 48 #[.agg #[.int .u64 a, .int .u64 s, .int .i64 r, .int .i64 c, .int .u64 f, .slice A keys.length cc]] w fun e w' => ∃ v, e = .returned (.tuple #[v, .int .i64 (gcheck r c f keys)]) ∧ Kd.R (Kd.int .u8) 5 w' w.heap.size (fun _ => True) v (if gcheck r c f keys = 0 then gbytes a s r c f keys else []) ∧ Below w.heap.size w w' := by
  have hu := Try.underlying66
  have hmf : ∀ (fn : Fn) (first cap : Array Value) (w : World), (Instr.makeFunc fn first cap).run Try.prog w = .ok (.func fn first cap) w := fun _ _ _ _ => rfl
  obtain ⟨gb, hgb⟩ : ∃ x, (if gcheck r c f keys = 0 then gbytes a s r c f keys else []) = x := ⟨_, rfl⟩
  rw [hgb]
  obtain ⟨ec, hec⟩ : ∃ x, gcheck r c f keys = x := ⟨_, rfl⟩
  rw [hec] at hgb ⊢
  have HGB := Aside0.mk hgb
  have HCK := Aside0.mk hCk
  have HC := Aside0.mk hC
  have HEC := Aside0.mk hec
  have HF := Aside0.mk (And.intro hc (And.intro hl (And.intro ha (And.intro hs hf))))
  have hnm := hC.2.1
  clear hCk hC hec hc hl ha hs hf hgb
  by_cases h0 : ec = 0
  case neg =>
    have hne : (ec != 0) = true := by simpa using h0
    have H0 := Aside0.mk h0
    clear h0
    go_enter Try.func48, Try.ntmps48
    go_wp2_with (go_at_call 40; (refine (HCK.out a s r c f A cc keys _ (Kd.C_below HC.out (by repeat (first | exact Below.refl _ _ | apply below_alloc | apply pw_below_drewN | apply below_drew1 | (refine Below.setCell ?_ (by simp) _)))) HF.out.1 HF.out.2.1 HF.out.2.2.2.2.1 HF.out.2.2.2.2.2).mono ?_); rintro e w1 ⟨rfl, hb⟩; rw [HEC.out]; have HB := Aside0.mk (show Below w.heap.size w w1 from below_step (by repeat (first | exact Below.refl _ _ | apply below_alloc | apply pw_below_drewN | apply below_drew1 | (refine Below.setCell ?_ (by simp) _))) hb); clear hb)
    go_ret2
    exact ⟨_, rfl, by rw [← HGB.out, if_neg H0.out]; exact Kd.R_nil _ _ _ _ _, HB.out⟩
  case pos =>
    subst h0
    obtain ⟨hr, hcc, hf0, hn64, hkeys, -⟩ := gcheck_ok HEC.out
    have hwr : IntKind.u64.wrap r = r := by rw [IntKind.wrap_u64]; omega
    have hwc : IntKind.u64.wrap c = c := by rw [IntKind.wrap_u64]; omega
    have hwn : IntKind.u64.wrap (keys.length : Int) = (keys.length : Int) := by rw [IntKind.wrap_u64]; omega
    have HR := Aside0.mk (And.intro hr (And.intro hcc (And.intro hn64 hkeys)))
    have H6 := Aside0.mk (show In64 [a, s, r, c, f, (keys.length : Int)] by
      have := HF.out
      intro x hx
      simp at hx
      rcases hx with rfl | rfl | rfl | rfl | rfl | rfl <;> omega)
    clear hr hcc hf0 hkeys
    have hn64' := hn64
    go_enter Try.func48, Try.ntmps48
    go_wp2_with (first | (go_at_call 40; (refine (HCK.out a s r c f A cc keys _ (Kd.C_below HC.out (by repeat (first | exact Below.refl _ _ | apply below_alloc | apply pw_below_drewN | apply below_drew1 | (refine Below.setCell ?_ (by simp) _)))) HF.out.1 HF.out.2.1 HF.out.2.2.2.2.1 HF.out.2.2.2.2.2).mono ?_); rintro e w1 ⟨rfl, hb⟩; rw [HEC.out]; go_must (have HB := Aside0.mk (show Below w.heap.size w w1 from below_step (by repeat (first | exact Below.refl _ _ | apply below_alloc | apply pw_below_drewN | apply below_drew1 | (refine Below.setCell ?_ (by simp) _))) hb)); go_must (obtain ⟨k0, k1, k2, k3, k4, k5, hlt⟩ := box6 hb); have HK5 := Aside0.mk k5; clear hb) | (go_at_call 60; go_must (refine (put_any w1 _ w1.heap.size (w1.heap.size + 1) (.slice (some ⟨w1.heap.size, 0, none⟩) 1 1) [75] (some ⟨w1.heap.size + 2, 0, none⟩) 6 [a, s, r, c, f, (keys.length : Int)] ?hbox ?hO ?hB ?hbs (Nat.le_succ _) ?hC H6.out ?hl1 ?hl2).mono ?_); go_must (case hl1 => exact (by decide : (6 : Nat) ≤ 1000)); go_must (case hl2 => exact (by decide : (1 : Nat) ≤ 100000000)); go_must (case hbox => exact blk_alloc (box_next w1 _ _) _); go_must (case hO => exact Kd.R_alloc (Kd.R_alloc (lit_ne .u8 (W := w1) w1.heap.size 5 (w1.heap.size + 1) [75] (Nat.le_refl _) (by decide) (Nat.ne_of_lt (Nat.lt_succ_self _))) _) _); go_must (case hB => exact (by repeat (first | exact Below.refl _ _ | apply below_alloc | apply pw_below_drewN | apply below_drew1 | (refine Below.setCell ?_ (by simp) _)))); go_must (case hbs => simp; omega); go_must (case hC => have := lit_C .u64 (W := (w1.alloc (.cells #[.int .u8 75] 5)).alloc (.cells #[.slice (some ⟨w1.heap.size, 0, none⟩) 1 1] 27)) 22 [a, s, r, c, f, (keys.length : Int)] (by simp); simpa [nums] using this); rintro e w2 ⟨rfl, v2, hbx, hR, hb⟩; have HX2 := Aside0.mk hbx; have HO2 := Aside0.mk hR; have HB2 := Aside0.mk hb; have q5 : w2.cell? ⟨w.heap.size, 5, none⟩ = some (.slice A keys.length cc) := (hb.cell (p := ⟨w.heap.size, 5, none⟩) hlt).trans HK5.out; clear hbx hR hb k0 k1 k2 k3 k4 k5))
    obtain ⟨g, hg⟩ : ∃ g, g = w1.heap.size + 1 := ⟨_, rfl⟩
    rw [← hg] at HX2 HO2 ⊢
    obtain ⟨hd, hhd⟩ : ∃ x, [75] ++ encAll [a, s, r, c, f, (keys.length : Int)] = x := ⟨_, rfl⟩
    rw [hhd] at HO2
    have HHD := Aside0.mk (And.intro hhd (show hd.length ≤ 61 by rw [← hhd, List.length_append]; have := encAll_len H6.out; simp at this ⊢; omega))
    have HG := Aside0.mk (show w1.heap.size ≤ g by omega)
    clear hhd hg
    go_loopg [38] (keys.length + 1) (fun kq v38 w' => ∃ (i : Nat) (v : Value) (out : List Int), v38 = .int .i64 i ∧ i ≤ keys.length ∧ Aside0 (kq = keys.length + 1 - i) ∧ Aside0 (out = hd ++ (keys.take i).flatMap gkey ∧ out.length ≤ 100 + 18 * i) ∧ Aside0 (w'.heap[g]? = some (.cells #[v] 27 (0, 0))) ∧ Aside0 (Kd.R (Kd.int .u8) 5 w' w1.heap.size (fun q => q ≠ g) v out) ∧ Aside0 (Below w1.heap.size w1 w'))
    case atStart => exact ⟨0, v2, hd, rfl, by omega, ⟨rfl⟩, ⟨by simp, by have := HHD.out.2; omega⟩, HX2, HO2, HB2⟩
    case round =>
      clear HX2 HO2 HB2 q5
      obtain ⟨i, v, out, rfl, hi, HK, HOU, HX, HO, HBr⟩ := hrel
      have HBT := Aside0.mk (show Below w.heap.size w wr from below_then HB.out HB.out.size HBr.out)
      by_cases hlt2 : i < keys.length
      · obtain ⟨ad, cs, rfl, hcl, hK, hcc⟩ := Kd.C_get (Kd.C_below HC.out HB.out) ([] : List Int) (i : Int) (by omega) (by omega)
        obtain ⟨Ak, ck, rfl, hck, hCk⟩ := hK
        have hcell1 : w1.cell? (ad.add i) = some (.slice Ak (keys.getD (i : Int).toNat []).length ck) := by
          have := hcc 0 _ rfl
          simpa [Kd.slice] using this
        have hcell : wr.cell? (ad.add i) = some (.slice Ak (keys.getD (i : Int).toNat []).length ck) := (HBr.out.cell (World.block_lt_of_cell? _ _ hcell1)).trans hcell1
        obtain ⟨kk, hkk⟩ : ∃ kk, keys.getD (i : Int).toNat [] = kk := ⟨_, rfl⟩
        rw [hkk] at hcell hCk hck
        have hkk2 : keys[i] = kk := by rw [← hkk, Int.toNat_natCast, List.getD_eq_getElem?_getD, List.getElem?_eq_getElem hlt2]; rfl
        have hkl := HR.out.2.2.2 keys[i] (List.getElem_mem hlt2)
        rw [hkk2] at hkl
        have HKK := Aside0.mk (And.intro hkk2 (And.intro hkl hlt2))
        have HCk := Aside0.mk hCk
        have hwl : IntKind.u64.wrap (kk.length : Int) = (kk.length : Int) := by rw [IntKind.wrap_u64]; omega
        have hkl8 : kk.length ≤ 8 := hkl.2
        clear hcc hcl hCk hkk hkk2 hkl hck hcell1
        go_wp2_with (first | (go_at_call 60; go_must (refine (put_any w1 _ w1.heap.size g v out (some ⟨wr.heap.size, 0, none⟩) 1 [(kk.length : Int)] ?hbox ?hO ?hB ?hbs HG.out ?hC ?h64 ?hl1 ?hl2).mono ?_); go_must (case hbox => exact blk_alloc HX.out _); go_must (case hO => exact Kd.R_alloc HO.out _); go_must (case hB => exact below_alloc HBr.out _); go_must (case hbs => have := HBr.out.size; simp; omega); go_must (case hC => have := lit_C .u64 (W := wr) 22 [(kk.length : Int)] (by simp); simpa [nums] using this); go_must (case h64 => intro x hx; simp at hx; omega); go_must (case hl1 => exact (by decide : (1 : Nat) ≤ 1000)); go_must (case hl2 => have := HOU.out.2; have := HKK.out.2.2; have := HR.out.2.2.1; omega); rintro e w3 ⟨rfl, v3, hbx, hR, hb⟩; obtain ⟨out3, ho3⟩ : ∃ x, out ++ encAll [(kk.length : Int)] = x := ⟨_, rfl⟩; rw [ho3] at hR; have HO3E := Aside0.mk ho3; have HX3 := Aside0.mk hbx; have HO3 := Aside0.mk hR; have HB3 := Aside0.mk hb; have hcl3 : w3.cell? ⟨g, 0, none⟩ = some v3 := (blk_cell hbx 0).trans rfl; have hfz3 := blk_frozen hbx 0; clear hbx hR hb ho3) | ((with_reducible refine gate_builtin (b := .append) (xs := #[.tmp 48, .tmp 49]) rfl ?_); go_must (at_builtin); go_must (refine Kd.R_append_rows (Kd.int .u8) (w0 := w1) w1.heap.size rfl (.tmp 48) (.tmp 49) 27 5 (.int .u8 0) 1 rfl Try.underlying27 info5 rfl (by decide) (by omega) v3 out3 kk Ak _ ck (fun q => q ≠ g) (fun _ => False) rfl rfl HO3.out ?aR (fun _ _ h => h) (fun _ h => h.elim) (Kd.freshB HX3.out) HB3.out HB3.out.size ?aL ?_); go_must (case aR => exact Kd.C_below HCk.out HB3.out); go_must (case aL => have := HOU.out.2; have := HKK.out.2.2; have := HR.out.2.2.1; have := encN_len10 (kk.length : Int) (by omega); rw [← HO3E.out, List.length_append, encAll_one]; omega); intro v4 w4 ho hb hg4 hat; obtain ⟨A4, c4, e4, hc4, -⟩ := Kd.R_reads ho; clear hc4; generalize (out3 ++ kk).length = n4 at e4; subst e4; have HO4 := Aside0.mk ho; have HB4 := Aside0.mk hb; have HX4 := Aside0.mk (blk_grown HX3.out hg4 (Kd.R_away HO3.out (fun _ hk => hk))); have hcl4 : w4.cell? ⟨g, 0, none⟩ = some v3 := (blk_cell HX4.out 0).trans rfl; have hfz4 := blk_frozen HX4.out 0; clear ho hb hg4 hat))
        go_roundg (keys.length + 1 - (i + 1))
        case measure => have := HK.out; omega
        case rel => exact ⟨i + 1, .slice A4 n4 c4, out3 ++ kk, by go_num, by omega, ⟨rfl⟩, ⟨by rw [take_flat HKK.out.2.2, HKK.out.1, ← HO3E.out, HOU.out.1, encAll_one]; simp [gkey], by rw [← HO3E.out, List.length_append, List.length_append, encAll_one]; have := encN_len10 (kk.length : Int) (by omega); have := HOU.out.2; omega⟩, ⟨by simpa using blk_set HX4.out 0 (.slice A4 n4 c4)⟩, ⟨Kd.R_far HO4.out (fun _ hk => hk) _⟩, ⟨HB4.out.setCell HG.out _⟩⟩
      · obtain rfl : i = keys.length := by omega
        have hcl : wr.cell? ⟨g, 0, none⟩ = some v := (blk_cell HX.out 0).trans rfl
        have HFIN := Aside0.mk (show out = gb by have h1 := HGB.out; simp only [if_true] at h1; rw [← h1, HOU.out.1, List.take_length, gbytes, HHD.out.1])
        clear hi hlt2
        go_wp2
        go_ret2
        exact ⟨_, rfl, by rw [← HFIN.out]; exact Kd.R_lower (Kd.R_mono HO.out (fun _ _ => trivial)) HB.out.size, HBT.out⟩
end Go.Proofs.Ytpephndecdkfhaa
