/- A parser of a host's bytes, in plain Lean. -/
import Derived.Test.YtlllbaieidbcdaaStP
namespace Go.Proofs.Ytlllbaieidbcdaa.Str
open Go.RowKit Go.Proofs.Ytlllbaieidbcdaa Go.Proofs.Ytlllbaieidbcdaa.PParseEvents Go.Proofs.YtlllbaieidbcdaaW.PrintWords Go.Proofs.YtlllbaieidbcdaaW.PrintLast Go.Proofs.YtlllbaieidbcdaaW.PrintMore
set_option linter.unusedVariables false
set_option linter.unusedSimpArgs false
/-- A parser: its state, numbers, what is held. -/
structure PP where
  st : Int
  n : List Int
  h : List Int
abbrev Evt := S46
def flushV (h : List Int) : List Evt := if h = [] then [] else [⟨1, 65533, []⟩]
def prV (l : List Int) : List Evt := l.map fun r => ⟨1, r, []⟩
def digV (n : List Int) (d : Int) : List Int := if n = [] then [d] else n.dropLast ++ [min (10 * max (n.getLastD 0) 0 + d) 9999]
def cntV (n : List Int) (b : Int) : Bool × Int × List Int :=
  if 64 ≤ b then (true, 0, n) else if 48 ≤ b ∧ b < 58 then (false, 3, digV n (b - 48)) else if b = 59 then (false, 3, (if n = [] then [-1] else n) ++ [-1]) else (false, 4, n)
def stepV (p : PP) (b : Int) : PP × List Evt :=
  if b < 32 ∨ b = 127 then
    if b = 27 then (⟨1, [], []⟩, flushV p.h) else (⟨if b = 24 ∨ b = 26 then 0 else p.st, p.n, []⟩, flushV p.h ++ [⟨2, b, []⟩])
  else if 128 ≤ b ∨ p.st = 0 then (⟨0, p.n, (cutZ (p.h ++ [b])).2⟩, prV (cutZ (p.h ++ [b])).1)
  else if p.st = 1 ∨ p.st = 2 then (⟨if p.st = 1 ∧ b = 91 then 3 else if b < 48 then 2 else 0, p.n, p.h⟩, [])
  else if p.st = 3 then (⟨(cntV p.n b).2.1, (cntV p.n b).2.2, p.h⟩, if (cntV p.n b).1 = true then [⟨3, b, p.n.take 8⟩] else [])
  else (⟨if 64 ≤ b then 0 else p.st, p.n, p.h⟩, [])
def feedV : PP → List Int → PP × List Evt
  | p, [] => (p, [])
  | p, b :: t => ((feedV (stepV p b).1 t).1, (stepV p b).2 ++ (feedV (stepV p b).1 t).2)
/-- What a parser may be; m: how many bytes it took. -/
structure PP.ok (p : PP) (m : Nat) : Prop where
  st0 : 0 ≤ p.st
  st4 : p.st ≤ 4
  l3 : p.h.length ≤ 3
  h8 : In8u p.h
  nl : p.n.length ≤ 2 * m
  nb : ∀ x ∈ p.n, -1 ≤ x ∧ x ≤ 9999
theorem digV_len (n : List Int) (d : Int) : (digV n d).length ≤ n.length + 1 := by
  unfold digV
  split
  · simp
  · rw [List.length_append, List.length_dropLast, List.length_singleton]; omega
theorem digV_in {n : List Int} {d : Int} (h0 : 0 ≤ d) (h9 : d ≤ 9) (h : ∀ x ∈ n, -1 ≤ x ∧ x ≤ 9999) : ∀ x ∈ digV n d, -1 ≤ x ∧ x ≤ 9999 := by
  intro x hx
  unfold digV at hx
  split at hx
  · rw [List.mem_singleton.1 hx]; omega
  · rcases List.mem_append.1 hx with hx | hx
    · exact h x (List.dropLast_subset _ hx)
    · rw [List.mem_singleton.1 hx]; omega
theorem cntV_len (n : List Int) (b : Int) : (cntV n b).2.2.length ≤ n.length + 2 := by
  unfold cntV
  split
  · simp
  · split
    · exact Nat.le_trans (digV_len _ _) (by omega)
    · split
      · split
        · simp
        · simp
      · simp
theorem cntV_in {n : List Int} {b : Int} (h : ∀ x ∈ n, -1 ≤ x ∧ x ≤ 9999) : ∀ x ∈ (cntV n b).2.2, -1 ≤ x ∧ x ≤ 9999 := by
  unfold cntV
  split
  · exact h
  · split
    · rename_i hb; exact digV_in (by omega) (by omega) h
    · split
      · intro x hx
        rcases List.mem_append.1 hx with hx | hx
        · split at hx
          · rw [List.mem_singleton.1 hx]; omega
          · exact h x hx
        · rw [List.mem_singleton.1 hx]; omega
      · exact h
theorem cntV_st (n : List Int) (b : Int) : 0 ≤ (cntV n b).2.1 ∧ (cntV n b).2.1 ≤ 4 := by
  unfold cntV
  split
  · simp
  · split
    · simp
    · split
      · simp
      · simp
theorem step_ok {p : PP} {m : Nat} (h : p.ok m) {b : Int} (h0 : 0 ≤ b) (h1 : b ≤ 255) : (stepV p b).1.ok (m + 1) := by
  have hc8 : In8u (p.h ++ [b]) := fun x hx => (List.mem_append.1 hx).elim (h.h8 x) (fun hx => by rw [List.mem_singleton.1 hx]; omega)
  have nl := h.nl
  unfold stepV
  split
  · split
    · exact ⟨by simp, by simp, by simp, fun x hx => by simp at hx, by simp, fun x hx => by simp at hx⟩
    · refine ⟨?_, ?_, by simp, fun x hx => by simp at hx, by simp; omega, h.nb⟩
      · dsimp only; split; exact Int.le_refl _; exact h.st0
      · dsimp only; split; omega; exact h.st4
  · split
    · exact ⟨by simp, by simp, (cut_held _ _ (Nat.le_refl _)).1, cutZ_in8 hc8, by simp; omega, h.nb⟩
    · split
      · refine ⟨?_, ?_, h.l3, h.h8, by simp; omega, h.nb⟩
        · dsimp only; split; omega; split <;> omega
        · dsimp only; split; omega; split <;> omega
      · split
        · have := cntV_st p.n b
          have := cntV_len p.n b
          exact ⟨by simp; omega, by simp; omega, h.l3, h.h8, by simp; omega, cntV_in h.nb⟩
        · refine ⟨?_, ?_, h.l3, h.h8, by simp; omega, h.nb⟩
          · dsimp only; split; omega; exact h.st0
          · dsimp only; split; omega; exact h.st4
theorem feed_ok : ∀ (l : List Int) {p : PP} {m : Nat}, p.ok m → In8u l → (feedV p l).1.ok (m + l.length) := by
  intro l
  induction l with
  | nil => intro p m h _; exact h
  | cons b t ih =>
    intro p m h h8
    have hb := h8 b (by simp)
    have := ih (step_ok h (b := b) (by omega) (by omega)) (fun x hx => h8 x (by simp [hx]))
    rw [List.length_cons, show m + (t.length + 1) = m + 1 + t.length by omega]
    exact this
theorem feed_app (a b : List Int) (p : PP) : feedV p (a ++ b) = ((feedV (feedV p a).1 b).1, (feedV p a).2 ++ (feedV (feedV p a).1 b).2) := by
  induction a generalizing p with
  | nil => rfl
  | cons x t ih => rw [List.cons_append, feedV, ih]; simp [feedV]
theorem flushV_len (h : List Int) : (flushV h).length ≤ 1 := by unfold flushV; split <;> simp
theorem step_len {p : PP} {m : Nat} (h : p.ok m) (b : Int) : (stepV p b).2.length ≤ 4 := by
  have := flushV_len p.h
  have hc := cutZ_len (p.h ++ [b])
  have := h.l3
  rw [List.length_append, List.length_singleton] at hc
  unfold stepV
  split
  · split
    · dsimp only; omega
    · dsimp only; rw [List.length_append, List.length_singleton]; omega
  · split
    · dsimp only [prV]; rw [List.length_map]; omega
    · split
      · simp
      · split
        · dsimp only; split <;> simp
        · simp
theorem feed_len : ∀ (l : List Int) {p : PP} {m : Nat}, p.ok m → In8u l → (feedV p l).2.length ≤ 4 * l.length := by
  intro l
  induction l with
  | nil => intro p m h _; simp [feedV]
  | cons b t ih =>
    intro p m h h8
    have hb := h8 b (by simp)
    have h1 := ih (step_ok h (b := b) (by omega) (by omega)) (fun x hx => h8 x (by simp [hx]))
    have h2 := step_len h b
    rw [feedV, List.length_append, List.length_cons]
    omega
theorem feed_snoc (l : List Int) (b : Int) (p : PP) : feedV p (l ++ [b]) = ((stepV (feedV p l).1 b).1, (feedV p l).2 ++ (stepV (feedV p l).1 b).2) := by
  rw [feed_app]; simp [feedV]
/-- All events of bytes. -/
def allV (l : List Int) : List Evt := (feedV ⟨0, [], []⟩ l).2 ++ flushV (feedV ⟨0, [], []⟩ l).1.h
theorem pp0_ok : (⟨0, [], []⟩ : PP).ok 0 := ⟨by simp, by simp, by simp, fun x hx => by simp at hx, by simp, fun x hx => by simp at hx⟩
end Go.Proofs.Ytlllbaieidbcdaa.Str
