/- key.Bytes, key.Moves, key.Word: the walks. -/
import Derived.Test.YtglcopljhanhmaaKeyC
namespace Go.Proofs.Ytglcopljhanhmaa
open Go.RowKit Go.Proofs.YtglcopljhanhmaaW.PrintWords Go.Proofs.YtglcopljhanhmaaW.PrintLast Go.Proofs.YtglcopljhanhmaaW.PrintMore
set_option linter.unusedVariables false
set_option linter.unusedSimpArgs false
/-- The bytes of a kind that has some of its own. -/
def textK (k : Int) : List Int := if k = 2 then [8] else if k = 3 then [27, 91, 68] else if k = 4 then [27, 91, 67] else if k = 5 then [27, 91, 65] else if k = 6 then [27, 91, 66] else if k = 7 then [13] else []
def mendK (r : Int) : Int := if scalarZ r = true then r else 65533
def bytesK (k r : Int) : List Int × Bool := if k = 1 then (if plainK r = true then (enc (mendK r), true) else ([], false)) else (textK k, textK k != [])
theorem named_cases {e : MapEntry} (h : e ∈ namedEs.toList) : ∃ (l : List Int) (k : Int), e.key = .string (strOfNums l) ∧ e.val = .int .i64 k ∧ textK k = l ∧ l ≠ [] ∧ l.length ≤ 3 ∧ In8u l := by
  simp only [namedEs, List.mem_cons, List.not_mem_nil, or_false] at h
  rcases h with rfl | rfl | rfl | rfl | rfl | rfl
  · exact ⟨[8], 2, rfl, rfl, rfl, by simp, by simp, by intro x hx; simp at hx; omega⟩
  · exact ⟨[27, 91, 68], 3, rfl, rfl, rfl, by simp, by simp, by intro x hx; simp at hx; omega⟩
  · exact ⟨[27, 91, 67], 4, rfl, rfl, rfl, by simp, by simp, by intro x hx; simp at hx; omega⟩
  · exact ⟨[27, 91, 65], 5, rfl, rfl, rfl, by simp, by simp, by intro x hx; simp at hx; omega⟩
  · exact ⟨[27, 91, 66], 6, rfl, rfl, rfl, by simp, by simp, by intro x hx; simp at hx; omega⟩
  · exact ⟨[13], 7, rfl, rfl, rfl, by simp, by simp, by intro x hx; simp at hx; omega⟩
/-- Who has been handed out is not of the kind; nobody is left: there is none of it. -/
theorem none_left {seen : Array Nat} {k : Int} (hs : ∀ e ∈ namedEs.toList, e.val = .int .i64 k → seen.contains e.born = false) (h : (leftOf namedEs seen).size = 0) : textK k = [] := by
  have hno : ∀ e ∈ namedEs.toList, e.val ≠ .int .i64 k := by
    intro e he hv
    have hm : e ∈ leftOf namedEs seen := by
      unfold leftOf
      simp only [Array.mem_filter]
      exact ⟨by simpa using he, by rw [hs e he hv]; rfl⟩
    have := Array.size_pos_of_mem hm
    omega
  have q : ∀ (s : Value) (v : Int) (b : Nat), (⟨s, .int .i64 v, b⟩ : MapEntry) ∈ namedEs.toList → k ≠ v := fun s v b hm e => hno _ hm (by rw [e])
  have h2 := q (.string ⟨#[8]⟩) 2 0 (by simp [namedEs])
  have h3 := q (.string ⟨#[27, 91, 68]⟩) 3 1 (by simp [namedEs])
  have h4 := q (.string ⟨#[27, 91, 67]⟩) 4 2 (by simp [namedEs])
  have h5 := q (.string ⟨#[27, 91, 65]⟩) 5 3 (by simp [namedEs])
  have h6 := q (.string ⟨#[27, 91, 66]⟩) 6 4 (by simp [namedEs])
  have h7 := q (.string ⟨#[13]⟩) 7 5 (by simp [namedEs])
  unfold textK
  rw [if_neg h2, if_neg h3, if_neg h4, if_neg h5, if_neg h6, if_neg h7]
/-- One more entry, whichever: the world has at most drawn. -/
theorem next_named {P : Program} (w : World) (ty : TypeId) (bm c0 : Nat) (seen : Array Nat) (hb : w.heap[bm]? = some (.map namedEs 6)) (hsc : 6 ≤ c0) :
    ((leftOf namedEs seen).size = 0 ∧ (Instr.next (.pointer (some ⟨w.heap.size, 0, none⟩)) false ty).run P (w.alloc (.mapIter (some bm) 6 seen c0)) = .ok (.tuple #[.bool false]) (w.alloc (.mapIter (some bm) 6 seen c0))) ∨
    ∃ e ∈ (leftOf namedEs seen).toList, ∃ m : Nat, (Instr.next (.pointer (some ⟨w.heap.size, 0, none⟩)) false ty).run P (w.alloc (.mapIter (some bm) 6 seen c0)) = .ok (.tuple #[.bool true, e.key, e.val]) ((w.drewN m).alloc (.mapIter (some bm) 6 (seen.push e.born) 6)) := by
  have hlt : bm < w.heap.size := (Array.getElem?_eq_some_iff.1 hb).1
  have hb' : (w.alloc (.mapIter (some bm) 6 seen c0)).heap[bm]? = some (.map namedEs 6) := by rw [heap_alloc_old w _ hlt, hb]
  have hold : ∀ x ∈ namedEs.toList, x.born < 6 := by
    intro x hx
    simp only [namedEs, List.mem_cons, List.not_mem_nil, or_false] at hx
    rcases hx with rfl | rfl | rfl | rfl | rfl | rfl <;> decide
  simp only [Instr.next, getObj, Sem.run_bind, Sem.run, heap_alloc_new, hb', Result.andThen, next_test_false seen namedEs 6 c0 hold hsc, Bool.false_eq_true, if_false]
  have hmem : ∀ x ∈ (leftOf namedEs seen).toList, x.born < 6 := fun x hx => hold x (mem_left hx).1
  have hL : Array.filter (fun e => !seen.contains e.born) namedEs = leftOf namedEs seen := rfl
  rw [hL]
  generalize leftOf namedEs seen = L at hmem ⊢
  have e1 : L.filter (fun x => decide (x.born < 6)) = L := Array.filter_eq_self.2 (fun x hx => by simpa using hmem x (by simpa using hx))
  have e2 : L.filter (fun x => decide (x.born ≥ 6)) = #[] := by
    rw [Array.filter_eq_empty_iff]
    intro x hx
    have := hmem x (by simpa using hx)
    simp
    omega
  simp only [e1, e2, Array.append_empty]
  rcases Nat.eq_zero_or_pos L.size with h0 | h0
  · left
    obtain rfl := Array.eq_empty_of_size_eq_zero h0
    exact ⟨rfl, by simp [choose, Sem.run, Question.forced]⟩
  · right
    have h0' : L.size ≠ 0 := by omega
    have hne : L.isEmpty = false := by simp [Array.isEmpty, h0']
    simp only [hne, Bool.false_eq_true, if_false, Array.empty_append, Array.size_map]
    obtain ⟨j, m, hj, hrun⟩ : ∃ (j m : Nat), j < L.size ∧ (choose (Question.mapNext L.size)).run P (w.alloc (.mapIter (some bm) 6 seen c0)) = .ok j ((w.drewN m).alloc (.mapIter (some bm) 6 seen c0)) := by
      by_cases hf : L.size ≤ 1
      · exact ⟨0, 0, h0, by simp [choose, Sem.run, Question.forced, hf]; rfl⟩
      · exact ⟨_, 1, Nat.mod_lt _ h0, by
          simp only [choose, Sem.run, Question.forced, decide_eq_true_eq, hf, if_false, Question.cut]
          rfl⟩
    refine ⟨L[j], by simp, m, ?_⟩
    have hp : ∀ (h : Array Obj) (x y : Obj), (h.push x).setIfInBounds h.size y = h.push y := by
      intro h x y
      apply Array.toList_inj.1
      simp
    have hset : ∀ (o' : Obj), (setObj w.heap.size o').run P ((w.drewN m).alloc (.mapIter (some bm) 6 seen c0)) = .ok () ((w.drewN m).alloc o') := fun o' => by
      simp only [setObj, Sem.run]
      rw [show w.heap.size = (w.drewN m).heap.size from rfl, heap_alloc_new]
      show Result.ok () ({ (w.drewN m).alloc (.mapIter (some bm) 6 seen c0) with heap := ((w.drewN m).heap.push (.mapIter (some bm) 6 seen c0)).setIfInBounds (w.drewN m).heap.size o' } : World) = _
      rw [hp]
      rfl
    simp only [hrun, Array.getElem?_map, Array.getElem?_eq_getElem hj, Option.map_some, Sem.run_bind, hset, Result.andThen]
    rfl
theorem born_find {e : MapEntry} (h : e ∈ namedEs.toList) : namedEs.find? (fun x => x.born == e.born) = some e := by
  simp only [namedEs, List.mem_cons, List.not_mem_nil, or_false] at h
  rcases h with rfl | rfl | rfl | rfl | rfl | rfl <;> rfl
theorem run_entry {P : Program} (w : World) (bm : Nat) (seen : Array Nat) (e : MapEntry) (hb : w.heap[bm]? = some (.map namedEs 6)) (he : e ∈ namedEs.toList) :
    (Instr.entry (.pointer (some ⟨w.heap.size, 0, none⟩))).run P (w.alloc (.mapIter (some bm) 6 (seen.push e.born) 6)) = .ok (.tuple #[e.key, e.val]) (w.alloc (.mapIter (some bm) 6 (seen.push e.born) 6)) := by
  have hlt : bm < w.heap.size := (Array.getElem?_eq_some_iff.1 hb).1
  have hb' : (w.alloc (.mapIter (some bm) 6 (seen.push e.born) 6)).heap[bm]? = some (.map namedEs 6) := by rw [heap_alloc_old w _ hlt, hb]
  simp only [Instr.entry, getObj, Sem.run_bind, Sem.run, heap_alloc_new, hb', Result.andThen, Array.back?_push, born_find he]
  rfl
theorem bytes_strU {l : List Int} (h : In8u l) : bytesOf (strOfNums l) = l := by
  unfold bytesOf strOfNums
  simp only [List.map_map]
  conv => rhs; rw [← List.map_id l]
  apply List.map_congr_left
  intro x hx
  have := h x hx
  simp [Function.comp]
  omega
theorem str_szK (l : List Int) : (strOfNums l).size = l.length := by simp [strOfNums, ByteArray.size]
set_option maxHeartbeats 8000000 in
set_option maxRecDepth 100000 in
theorem Bytes_walk (hB : ∀ (A : Option Addr) (c : Nat) (r : Int) (w : World), (Kd.int .i32).C w A 1 [r] → 1 ≤ c →
      Calls Try.prog 27 #[.slice A 1 c] w fun e w' => ∃ v, e = .returned v ∧ Kd.R (Kd.int .u8) 5 w' w.heap.size (fun _ => True) v (enc (mendK r)) ∧ Below w.heap.size w w')
    (hP : ∀ (r : Int) (w : World), Calls Try.prog 39 #[.int .i32 r] w fun e w' => e = .returned (.bool (plainK r)) ∧ Below w.heap.size w w')
    (k r : Int) (r1 : List Int) (r2 : Bool) (w : World) (hq : bytesK k r = (r1, r2)) :
    Calls Try.prog 47 #[.agg #[.int .i64 k, .int .i32 r]] w fun e w' => ∃ A c, e = .returned (.tuple #[.slice A r1.length c, .bool r2]) ∧ r1.length ≤ c ∧ (Kd.int .u8).C w' A r1.length r1 ∧ Below w.heap.size w w' := by
  have hx : (w.alloc (.cells #[.int .i64 k, .int .i32 r] 70)).heap[w.heap.size]? = some (.cells #[.int .i64 k, .int .i32 r] 70 (0, 0)) := blk_new w _
  have HX := Aside0.mk hx
  have HB0 := Aside0.mk (show Below w.heap.size w (w.alloc (.cells #[.int .i64 k, .int .i32 r] 70)) from below_alloc (Below.refl _ _) _)
  have HBY := Aside0.mk (hB)
  have HP := Aside0.mk (hP r)
  unfold bytesK at hq
  clear hB hP
  by_cases hk : k = 1
  · rw [if_pos hk] at hq
    have hT : (k == 1) = true := by rw [hk]; rfl
    clear hk hx
    obtain ⟨pp, hpp⟩ : ∃ v, plainK r = v := ⟨_, rfl⟩
    rw [hpp] at hq HP
    clear hpp
    cases pp
    · obtain ⟨rfl, rfl⟩ : [] = r1 ∧ false = r2 := by simpa using hq
      clear hq
      go_enter Try.func47, Try.ntmps47
      go_wp2_with (first | (go_at_call 39; refine (HP.out _).mono ?_; rintro e w2 ⟨rfl, hb⟩; have HB2 := Aside0.mk (below_then HB0.out HB0.out.size hb); clear hb))
      all_goals go_ret2
      all_goals exact ⟨none, 0, rfl, Nat.le_refl _, Kd.C_nil _ _, HB2.out⟩
    · obtain ⟨rfl, rfl⟩ : enc (mendK r) = r1 ∧ true = r2 := by simpa using hq
      clear hq
      go_enter Try.func47, Try.ntmps47
      go_wp2_with (first | (go_at_call 39; refine (HP.out _).mono ?_; rintro e w2 ⟨rfl, hb⟩; have HB2 := Aside0.mk (below_then HB0.out HB0.out.size hb); have hx2 := blk_below HX.out hb; have hc2 : w2.cell? ⟨w.heap.size, 1, none⟩ = some (.int .i32 r) := (blk_cell hx2 1).trans rfl; clear hb hx2) | (go_at_call 27; go_must (refine (HBY.out (some ⟨w2.heap.size, 0, none⟩) 1 r _ (Kd.R_reads' (R_lit_at .i32 (W := w2) w2.heap.size 21 w2.heap.size [r] rfl (Nat.le_refl _) (by simp))).2.2 (Nat.le_refl _)).mono ?_); rintro e w3 ⟨v, rfl, hR, hb⟩; obtain ⟨A3, c3, rfl, hc3, hC3⟩ := Kd.R_reads hR; have H3 := Aside0.mk (And.intro (And.intro hc3 hC3) hb); clear hR hb hc3 hC3))
      all_goals go_ret2
      all_goals exact ⟨_, _, rfl, H3.out.1.1, H3.out.1.2, below_then HB2.out HB2.out.size (below_step (below_alloc (Below.refl _ _) _) H3.out.2)⟩
  · rw [if_neg hk] at hq
    have hT : (k == 1) = false := by rw [beq_eq_false_iff_ne]; exact hk
    obtain ⟨rfl, hr2⟩ : textK k = r1 ∧ (textK k != []) = r2 := by simpa using hq
    have HR2 := Aside0.mk hr2
    clear hk hq hr2 hx
    go_enter Try.func47, Try.ntmps47
    go_wp2_with (first | (go_at_call 64; refine (named_any _).mono ?_; rintro e w2 ⟨rfl, hm, hb⟩; rw [show (w.alloc (.cells #[.int .i64 k, .int .i32 r] 70)).heap.size = w.heap.size + 1 by simp] at hm; have hrg := run_range_map (P := Try.prog) w2 97 9 3 _ namedEs 6 mapU hm; have HM := Aside0.mk hm; have HB2 := Aside0.mk (below_then HB0.out HB0.out.size hb); have HX2 := Aside0.mk (blk_below HX.out hb); clear hb hm))
    have HXL := Aside0.mk (show w.heap.size < w2.heap.size from blk_lt HX2.out)
    go_loopg [19] (7 : Nat) (fun kq v19 w' => ∃ (m c0 : Nat) (seen : Array Nat), w' = (w2.drewN m).alloc (.mapIter (some (w.heap.size + 1)) 6 seen c0) ∧ Aside0 (6 ≤ c0) ∧ Aside0 (kq = (leftOf namedEs seen).size + 1) ∧ Aside0 (∀ e ∈ namedEs.toList, e.val = .int .i64 k → seen.contains e.born = false))
    case atStart => exact ⟨0, 6, #[], rfl, ⟨Nat.le_refl _⟩, ⟨by simp [leftOf, namedEs]⟩, ⟨by simp⟩⟩
    case round =>
      obtain ⟨m, c0, seen, rfl, HC, HK, HS⟩ := hrel
      have hb2 : (w2.drewN m).heap[w.heap.size + 1]? = some (.map namedEs 6) := HM.out
      have hsz : (w2.drewN m).heap.size = w2.heap.size := rfl
      rcases next_named (P := Try.prog) (w2.drewN m) 0 (w.heap.size + 1) c0 seen hb2 HC.out with ⟨h0, hrun⟩ | ⟨e, he, m2, hrun⟩
      · rw [hsz] at hrun
        have HT0 := Aside0.mk (none_left HS.out h0)
        have HF := Aside0.mk (show ([] : List Int) = textK k ∧ false = r2 by rw [HT0.out]; exact ⟨rfl, by rw [← HR2.out, HT0.out]; rfl⟩)
        clear h0
        go_wp2
        all_goals go_ret2
        all_goals (obtain ⟨e1, e2⟩ := HF.out; rw [← e1, ← e2]; exact ⟨none, 0, rfl, Nat.le_refl _, Kd.C_nil _ _, below_alloc (pw_below_drewN HB2.out m) _⟩)
      · obtain ⟨l, kv, hek, hev, htx, hln, hl3, hl8⟩ := named_cases (mem_left he).1
        rw [World.drewN_drewN] at hrun
        obtain ⟨n, hn⟩ : ∃ n, m + m2 = n := ⟨_, rfl⟩
        rw [hn] at hrun
        clear hn
        have hen := run_entry (P := Try.prog) (w2.drewN n) (w.heap.size + 1) seen e HM.out (mem_left he).1
        rw [hek, hev] at hrun hen
        rw [show (w2.drewN n).heap.size = w2.heap.size from rfl] at hen
        rw [hsz] at hrun
        have HE := Aside0.mk he
        have HEV := Aside0.mk hev
        obtain ⟨s, hs⟩ : ∃ s, strOfNums l = s := ⟨_, rfl⟩
        rw [hs] at hrun hen
        have HS8 := Aside0.mk (show bytesOf s = l by rw [← hs]; exact bytes_strU hl8)
        have HSZ := Aside0.mk (show s.size ≤ 3 by rw [← hs, str_szK]; exact hl3)
        have hxi : ((w2.drewN n).alloc (.mapIter (some (w.heap.size + 1)) 6 (seen.push e.born) 6)).heap[w.heap.size]? = some (.cells #[.int .i64 k, .int .i32 r] 70 (0, 0)) := blk_alloc HX2.out _
        have hci : ((w2.drewN n).alloc (.mapIter (some (w.heap.size + 1)) 6 (seen.push e.born) 6)).cell? ⟨w.heap.size, 0, none⟩ = some (.int .i64 k) := (blk_cell hxi 0).trans rfl
        have HBI := Aside0.mk (show Below w.heap.size w ((w2.drewN n).alloc (.mapIter (some (w.heap.size + 1)) 6 (seen.push e.born) 6)) from below_alloc (pw_below_drewN HB2.out n) _)
        by_cases hkk : kv = k
        · have hTk : (kv == k) = true := by rw [hkk]; simp
          have HF := Aside0.mk (show l = textK k ∧ true = r2 by rw [← HR2.out, ← hkk, htx]; exact ⟨rfl, by simp [hln]⟩)
          clear he hev hs hl3 hl8 hek htx hln hkk hxi
          go_wp2_with (first | ((with_reducible refine gate_dst (N := 29) rfl ?_); go_must (refine bytes_event rfl 9 22 5 (.tmp 28) s rfl rfl Try.underlying9 Try.underlying22 Try.underlying5 (by have := HSZ.out; omega) ?_); intro ad c5 w5 hC5 hc5 hb; rw [HS8.out] at hC5 hc5 ⊢; have H5 := Aside0.mk (And.intro hc5 (And.intro hC5 hb)); clear hC5 hc5 hb))
          all_goals go_ret2
          all_goals (obtain ⟨e1, e2⟩ := HF.out; rw [← e1, ← e2]; exact ⟨_, _, rfl, H5.out.1, H5.out.2.1, below_then HBI.out HBI.out.size H5.out.2.2⟩)
        · have hTk : (kv == k) = false := by rw [beq_eq_false_iff_ne]; exact hkk
          have HKK := Aside0.mk hkk
          clear he hev hs hl3 hl8 hek htx hln hkk hxi
          go_wp2
          go_roundg ((leftOf namedEs (seen.push e.born)).size + 1)
          case measure => have := left_shrinks namedEs seen e HE.out; have := HK.out; omega
          case rel => exact ⟨n, 6, seen.push e.born, rfl, ⟨Nat.le_refl _⟩, ⟨rfl⟩, ⟨by
            intro x hx hv
            have h1 := HS.out x hx hv
            have h2 : x.born ≠ e.born := by
              intro hb
              have f1 := born_find hx
              have f2 := born_find (mem_left HE.out).1
              rw [hb, f2] at f1
              have : e = x := Option.some.inj f1
              rw [← this, HEV.out] at hv
              injection hv with _ hv
              exact HKK.out hv
            simp [h2] at h1 ⊢
            simpa using h1⟩⟩
end Go.Proofs.Ytglcopljhanhmaa
