/- GridNil: what its proof leads to. No condition. -/
import Derived.ProofKit
import Derived.OpenShut
import Derived.Test.YtblcmcdifgclcaaWMoreqGridNil
import Derived.Test.YtblcmcdifgclcaaWArrqGridNil
namespace Go.Proofs.Ytblcmcdifgclcaa
open Go.RowKit Go.Proofs.YtblcmcdifgclcaaW.PrintWords

def Opn (P : Program) (t : TypeId) {α : Type} (d : Kd α) (Q : α → Prop) : Prop :=
  ∀ {H : Type} (enc : TypeId × Value → H) (w : World) (base : Nat) (spare : Nat → Bool) (held : Bool) (fuel : Nat) (cs : List Value) (x : DataW H × List MemPlace), DataW.trod enc P w base spare held fuel t cs = some x → ∃ a : α, d.K w a cs ∧ Q a
theorem Opn.int {P : Program} {t : TypeId} {k : IntKind} (ht : P.underlying t = some (.int k)) : Opn P t (Kd.int k) (fun n => (Lit.int k n).wf = true) := by
  intro H enc w base spare held fuel cs x h
  obtain ⟨n, rfl, _, hw⟩ := DataW.trod_int ht h
  exact ⟨n, rfl, hw⟩
/-- A list chosen element by element. -/
theorem choose_list {α : Type} {R : Nat → α → Prop} : ∀ n, (∀ i, i < n → ∃ a, R i a) → ∃ l : List α, l.length = n ∧ ∀ i a, l[i]? = some a → R i a
  | 0, _ => ⟨[], rfl, fun i a h => by simp at h⟩
  | n + 1, h => by
    obtain ⟨l, hl, hr⟩ := choose_list n (fun i hi => h i (by omega))
    obtain ⟨a, ha⟩ := h n (by omega)
    refine ⟨l ++ [a], by simp [hl], fun i b hb => ?_⟩
    rcases Nat.lt_or_ge i l.length with hi | hi
    · rw [List.getElem?_append_left hi] at hb
      exact hr i b hb
    · have hin : i = n := by
        have := (List.getElem?_eq_some_iff.1 hb).1
        rw [List.length_append, List.length_singleton] at this
        omega
      subst hin
      rw [← hl] at hb
      simp at hb
      subst hb
      exact ha
theorem Opn.slice {P : Program} {t e : TypeId} {α : Type} {d : Kd α} {Q : α → Prop} (ht : P.underlying t = some (.slice e)) (hc : P.cellsOf e = d.sz) (he : Opn P e d Q) : Opn P t (Kd.slice e d) (fun xs => ∀ a ∈ xs, Q a) := by
  intro H enc w base spare held fuel cs x h
  rcases DataW.trod_slice ht h with ⟨rfl, _⟩ | ⟨a, len, cap, elems, rest, n, _, rfl, _, hb, hl, hm, hlen, hel, _, _⟩
  · exact ⟨[], ⟨none, 0, rfl, Nat.le_refl _, Kd.C_nil d w⟩, fun a ha => by cases ha⟩
  · have each : ∀ i, i < len → ∃ y : α, (∃ c, w.cells? base (a.add (i * P.cellsOf e)) (P.cellsOf e) = some c ∧ d.K w y c) ∧ Q y := by
      intro i hi
      have h1 := hel i hi
      rw [List.getElem?_eq_getElem (by omega)] at h1
      obtain ⟨c, hc1, hc2⟩ := Option.bind_eq_some_iff.1 h1
      obtain ⟨y, hk, hq⟩ := he enc w base spare held n c _ hc2
      exact ⟨y, ⟨c, hc1, hk⟩, hq⟩
    obtain ⟨l, hll, hr⟩ := choose_list len each
    have hmm : len ≤ 9223372036854775807 := by unfold maxLen at hm; omega
    refine ⟨l, ⟨some a, cap, by rw [hll], by omega, ⟨rfl, by omega, fun _ => ⟨a, rfl, fun j p hj => ?_⟩⟩⟩, fun y hy => ?_⟩
    · obtain ⟨⟨c, hc1, hk⟩, _⟩ := hr j p hj
      refine ⟨c, d.K_len hk, hk, fun i u hu => ?_⟩
      obtain ⟨hbb, hlc, hcell⟩ := World.cells?_some hc1
      have hi := (List.getElem?_eq_some_iff.1 hu).1
      have h2 := hcell i (by omega)
      rw [hc, add_add] at h2
      rw [h2, hu]
    · obtain ⟨i, hi⟩ := List.getElem?_of_mem hy
      exact (hr i y hi).2
theorem Opn.array {P : Program} {t e : TypeId} {α : Type} {n : Nat} {d : Kd α} {Q : α → Prop} (hs : 0 < d.sz) (ht : P.underlying t = some (.array n e)) (hct : P.cellsOf t = n * d.sz) (hc : P.cellsOf e = d.sz) (he : Opn P e d Q) : Opn P t (Kd.arr n d hs) (fun xs => ∀ a ∈ xs, Q a) := by
  intro H enc w base spare held fuel cs x h
  obtain ⟨xs, m, _, _, hlen, hxl, hel⟩ := DataW.trod_array ht h
  have each : ∀ i, i < n → ∃ y : α, d.K w y ((cs.drop (i * d.sz)).take d.sz) ∧ Q y := by
    intro i hi
    have h1 := hel i hi
    rw [List.getElem?_eq_getElem (by omega), hc] at h1
    obtain ⟨y, hk, hq⟩ := he enc w base spare held m _ _ h1
    exact ⟨y, hk, hq⟩
  obtain ⟨l, hll, hr⟩ := choose_list n each
  refine ⟨l, ⟨hll, by rw [hlen, hct, hll], fun j p hj => (hr j p hj).1⟩, fun y hy => ?_⟩
  obtain ⟨i, hi⟩ := List.getElem?_of_mem hy
  exact (hr i y hi).2
/-- A struct is its first field and the rest of it, read as one: what any struct owes. -/
def Flds (P : Program) (fs : List Field) (off : Nat) {α : Type} (d : Kd α) (Q : α → Prop) : Prop :=
  ∀ {H : Type} (enc : TypeId × Value → H) (w : World) (base : Nat) (spare : Nat → Bool) (held : Bool) (n : Nat) (cs : List Value) (xs : List (DataW H × List MemPlace)), cs.length = off + d.sz → (∀ (i : Nat) (f : Field), fs[i]? = some f → DataW.trod enc P w base spare held n f.type ((cs.drop f.offset).take (P.cellsOf f.type)) = xs[i]?) → xs.length = fs.length → ∃ a : α, d.K w a (cs.drop off) ∧ Q a
theorem Flds.one {P : Program} {f : Field} {off : Nat} {α : Type} {d : Kd α} {Q : α → Prop} (h : Opn P f.type d Q) (c : f.offset = off ∧ P.cellsOf f.type = d.sz) : Flds P [f] off d Q := by
  intro H enc w base spare held n cs xs hl hel hx
  have e0 := hel 0 f rfl
  simp at hx
  rw [List.getElem?_eq_getElem (by omega), c.1, c.2] at e0
  obtain ⟨a, ka, qa⟩ := h enc w base spare held n _ _ e0
  rw [List.take_of_length_le (by rw [List.length_drop]; omega)] at ka
  exact ⟨a, ka, qa⟩
theorem Flds.cons {P : Program} {f : Field} {fs : List Field} {off : Nat} {α β : Type} {d : Kd α} {d' : Kd β} {Q : α → Prop} {Q' : β → Prop} (h : Opn P f.type d Q) (c : f.offset = off ∧ P.cellsOf f.type = d.sz) (hr : Flds P fs (off + d.sz) d' Q') : Flds P (f :: fs) off (Kd.pair d d') (fun x => Q x.1 ∧ Q' x.2) := by
  intro H enc w base spare held n cs xs hl hel hx
  have e0 := hel 0 f rfl
  simp at hx
  have hl' : cs.length = off + d.sz + d'.sz := by rw [hl]; simp [Kd.pair]; omega
  rw [List.getElem?_eq_getElem (by omega), c.1, c.2] at e0
  obtain ⟨a, ka, qa⟩ := h enc w base spare held n _ _ e0
  obtain ⟨b, kb, qb⟩ := hr enc w base spare held n cs (xs.drop 1) hl' (fun i g hg => by rw [List.getElem?_drop, Nat.add_comm]; exact hel (i + 1) g (by simpa using hg)) (by simp [hx])
  refine ⟨(a, b), ⟨_, _, ?_, ka, kb⟩, qa, qb⟩
  rw [← List.drop_drop, List.take_append_drop]
theorem Opn.struct {P : Program} {t : TypeId} {fs : Array Field} {α : Type} {d : Kd α} {Q : α → Prop} (ht : P.underlying t = some (.struct fs)) (hct : P.cellsOf t = d.sz) (h : Flds P fs.toList 0 d Q) : Opn P t d Q := by
  intro H enc w base spare held fuel cs x hx
  obtain ⟨xs, n, _, _, hlen, hxl, hel⟩ := DataW.trod_struct ht hx
  obtain ⟨a, ka, qa⟩ := h enc w base spare held n cs xs (by omega) (fun i f hf => hel i f (by simpa using hf)) (by simpa using hxl)
  exact ⟨a, by simpa using ka, qa⟩

/-- Any argument. -/
theorem open_any {H : Type} {enc : TypeId × Value → H} {P : Program} {W : World} {t : TypeId} {α : Type} {d : Kd α} {Q : α → Prop} (ho : Opn P t d Q) {v : Value} {x : DataW H} {ps : List MemPlace} {spare : Nat → Bool} {held : Bool} {base : Nat}
    (h : DataW.Trod enc P W base spare held t v x ps) : ∃ a : α, d.K W a v.cells.toList ∧ Q a := by
  obtain ⟨fuel, hf⟩ := h
  exact ho enc W base spare held fuel _ _ hf
end Go.Proofs.Ytblcmcdifgclcaa
