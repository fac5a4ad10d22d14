/- key: what keys are; the map of those that have bytes of their own. -/
import Derived.Test.YtglcopljhanhmaaUtfI
import Derived.Test.YtglcopljhanhmaaUtfC
import Derived.Test.YtglcopljhanhmaaWidE
import Derived.Test.YtglcopljhanhmaaRows
import Derived.Test.YtglcopljhanhmaaLit
import Derived.Test.YtglcopljhanhmaaCuts
import Derived.Test.YtglcopljhanhmaaSetSome
import Derived.Laws.IdiomRangeMap
import Derived.MapKept
import Derived.WalkKit
import Derived.WalkSpells
import Derived.WalkLawsBesides
import Derived.WalkSmall
import Derived.Deep.RegionHeld3
import Derived.Deep.RegionLaw
import Derived.BigQuiet
import Derived.Deep.QuietTactic
namespace Go.Proofs.Ytglcopljhanhmaa
open Go.RowKit Go.Proofs.YtglcopljhanhmaaW.PrintWords Go.Proofs.YtglcopljhanhmaaW.PrintLast Go.Proofs.YtglcopljhanhmaaW.PrintMore
set_option linter.unusedVariables false
set_option linter.unusedSimpArgs false
/-- The kind of bytes that are a key of their own; 0: none. -/
def kindZ (l : List Int) : Int := if l = [8] then 2 else if l = [27, 91, 68] then 3 else if l = [27, 91, 67] then 4 else if l = [27, 91, 65] then 5 else if l = [27, 91, 66] then 6 else if l = [13] then 7 else 0
def namedEs : Array MapEntry := #[⟨.string ⟨#[8]⟩, .int .i64 2, 0⟩, ⟨.string ⟨#[27, 91, 68]⟩, .int .i64 3, 1⟩, ⟨.string ⟨#[27, 91, 67]⟩, .int .i64 4, 2⟩, ⟨.string ⟨#[27, 91, 65]⟩, .int .i64 5, 3⟩, ⟨.string ⟨#[27, 91, 66]⟩, .int .i64 6, 4⟩, ⟨.string ⟨#[13]⟩, .int .i64 7, 5⟩]
def kindS (s : ByteArray) : Int := if s == ⟨#[8]⟩ then 2 else if s == ⟨#[27, 91, 68]⟩ then 3 else if s == ⟨#[27, 91, 67]⟩ then 4 else if s == ⟨#[27, 91, 65]⟩ then 5 else if s == ⟨#[27, 91, 66]⟩ then 6 else if s == ⟨#[13]⟩ then 7 else 0
theorem run_checkKey_str {P : Program} {k : TypeId} (hk : P.underlying k = some .string) (b : Bool) (n : Nat) (s : ByteArray) (w : World) : (Instr.checkKey b (n + 1) k (.string s)).run P w = .ok () w := by
  simp [Instr.checkKey, run_underlying hk]
theorem run_findKey_str {P : Program} {k : TypeId} (hk : P.underlying k = some .string) (s : ByteArray) (es : List MapEntry) (w : World) {r : Option (Nat × Value)} (h : Instr.findNow .string (.string s) es 0 = some r) : (Instr.findKey k (.string s) es).run P w = .ok r w := by
  simp [Instr.findKey, run_underlying hk, h]
theorem map_insert {P : Program} {t k e : TypeId} (ht : P.underlying t = some (.map k e)) (hk : P.underlying k = some .string) (w : World) (g : Nat) (es : Array MapEntry) (c : Nat) (s : ByteArray) (v : Value) (hb : w.heap[g]? = some (.map es c)) (hn : Instr.findNow .string (.string s) es.toList 0 = some none) :
    ∃ w', (Instr.mapUpdate t (.map (some g)) (.string s) v).run P w = .ok () w' ∧ w'.heap[g]? = some (.map (es.push ⟨.string s, v, c⟩) (c + 1)) ∧ w.grownBy w' (some g) := by
  have hlt : g < w.heap.size := (Array.getElem?_eq_some_iff.1 hb).1
  refine ⟨{ w with heap := w.heap.setIfInBounds g (.map (es.push ⟨.string s, v, c⟩) (c + 1)) }, ?_, ?_, ⟨rfl, rfl, rfl, by simp, fun i _ hi => ?_⟩⟩
  · simp [Instr.mapUpdate, run_underlying ht, MapKept.run_getObj_map hb, run_checkKey_str hk, run_findKey_str hk s _ _ hn, MapKept.run_setObj_map _ hb, Result.andThen]
  · simp [hlt]
  · have : g ≠ i := fun e => hi (by rw [e])
    simp [this]
theorem named_find (s : ByteArray) : Instr.findNow .string (.string s) namedEs.toList 0 = some (if kindS s = 0 then none else some ((kindS s).toNat - 2, .int .i64 (kindS s))) := by
  unfold kindS
  simp only [namedEs, Instr.findNow, Instr.sameNow]
  generalize (s == (⟨#[8]⟩ : ByteArray)) = b1
  generalize (s == (⟨#[27, 91, 68]⟩ : ByteArray)) = b2
  generalize (s == (⟨#[27, 91, 67]⟩ : ByteArray)) = b3
  generalize (s == (⟨#[27, 91, 65]⟩ : ByteArray)) = b4
  generalize (s == (⟨#[27, 91, 66]⟩ : ByteArray)) = b5
  generalize (s == (⟨#[13]⟩ : ByteArray)) = b6
  cases b1
  · cases b2
    · cases b3
      · cases b4
        · cases b5
          · cases b6 <;> rfl
          · rfl
        · rfl
      · rfl
    · rfl
  · rfl
theorem named_look {P : Program} {t k e : TypeId} (ht : P.underlying t = some (.map k e)) (hk : P.underlying k = some .string) (he : ∀ w, (zeroValue e).run P w = .ok (.int .i64 0) w) (w : World) (g : Nat) (hb : w.heap[g]? = some (.map namedEs 6)) (s : ByteArray) :
    (Instr.lookup t (.map (some g)) (.string s) false).run P w = .ok (.int .i64 (kindS s)) w ∧ (Instr.lookup t (.map (some g)) (.string s) true).run P w = .ok (.tuple #[.int .i64 (kindS s), .bool (decide (kindS s ≠ 0))]) w := by
  have hf := run_findKey_str hk s namedEs.toList w (named_find s)
  by_cases h : kindS s = 0
  · rw [if_pos h] at hf
    constructor <;> simp [Instr.lookup, run_underlying ht, MapKept.run_getObj_map hb, run_checkKey_str hk, hf, Result.andThen, he, h]
  · rw [if_neg h] at hf
    constructor <;> simp [Instr.lookup, run_underlying ht, MapKept.run_getObj_map hb, run_checkKey_str hk, hf, Result.andThen, h]
theorem mapU : Try.prog.underlying 97 = some (.map 9 3) := by kernel_rfl
theorem zero_int (w : World) : (zeroValue 3).run Try.prog w = .ok (.int .i64 0) w := by kernel_rfl
set_option maxRecDepth 100000 in
set_option maxHeartbeats 4000000 in
theorem named_any (w : World) : Calls Try.prog 64 #[] w fun e w' => e = .returned (.map (some w.heap.size)) ∧ w'.heap[w.heap.size]? = some (.map namedEs 6) ∧ Below w.heap.size w w' := by
  have h0 : (w.alloc (.map #[] 0)).heap[w.heap.size]? = some (.map #[] 0) := blk_new w _
  obtain ⟨w1, r1, h1, g1⟩ := map_insert (P := Try.prog) mapU Try.underlying9 _ _ _ _ ⟨#[8]⟩ (.int .i64 2) h0 rfl
  obtain ⟨w2, r2, h2, g2⟩ := map_insert (P := Try.prog) mapU Try.underlying9 _ _ _ _ ⟨#[27, 91, 68]⟩ (.int .i64 3) h1 rfl
  obtain ⟨w3, r3, h3, g3⟩ := map_insert (P := Try.prog) mapU Try.underlying9 _ _ _ _ ⟨#[27, 91, 67]⟩ (.int .i64 4) h2 rfl
  obtain ⟨w4, r4, h4, g4⟩ := map_insert (P := Try.prog) mapU Try.underlying9 _ _ _ _ ⟨#[27, 91, 65]⟩ (.int .i64 5) h3 rfl
  obtain ⟨w5, r5, h5, g5⟩ := map_insert (P := Try.prog) mapU Try.underlying9 _ _ _ _ ⟨#[27, 91, 66]⟩ (.int .i64 6) h4 rfl
  obtain ⟨w6, r6, h6, g6⟩ := map_insert (P := Try.prog) mapU Try.underlying9 _ _ _ _ ⟨#[13]⟩ (.int .i64 7) h5 rfl
  have hmm := @run_makeMap Try.prog
  have H6 := Aside0.mk h6
  have HG := Aside0.mk (show Below w.heap.size w w6 from by
    have b0 : Below w.heap.size w (w.alloc (.map #[] 0)) := below_alloc (Below.refl _ _) _
    have up : ∀ {a b : World}, Below w.heap.size w a → a.grownBy b (some w.heap.size) → Below w.heap.size w b := fun ha hg => below_grown_ge ha hg (Nat.le_refl _)
    exact up (up (up (up (up (up b0 g1) g2) g3) g4) g5) g6)
  clear h0 h1 h2 h3 h4 h5 h6 g1 g2 g3 g4 g5 g6
  go_enter Try.func64, Try.ntmps64
  go_wp2
  all_goals go_ret
  all_goals exact ⟨rfl, H6.out, HG.out⟩
end Go.Proofs.Ytglcopljhanhmaa
