/- GridNil: what its proof leads to. No condition. -/
import Derived.Test.YtblcmcdifgclcaaGrOqGridNil
namespace Go.Proofs.Ytblcmcdifgclcaa.Grd
open Go.RowKit Go.Proofs.Ytblcmcdifgclcaa Go.Proofs.Ytblcmcdifgclcaa.PGridSame Go.Proofs.YtblcmcdifgclcaaW.PrintWords Go.Proofs.YtblcmcdifgclcaaW.PrintLast Go.Proofs.YtblcmcdifgclcaaW.PrintMore
set_option linter.unusedVariables false
set_option linter.unusedSimpArgs false
set_option maxRecDepth 100000
set_option maxHeartbeats 4000000
attribute [local go_sem] max2_int min2_int max_two min_two
/-- The rows of a grid: a block of slices, whose cells are only read. -/
def RGL (W : World) (ok : Nat → Prop) (v : Value) (L : List (List RC)) : Prop :=
  ∃ b cap, v = .slice (some ⟨b, 0, none⟩) L.length cap ∧ L.length ≤ cap ∧ ok b ∧ (∃ cs, W.heap[b]? = some (.cells cs tRL (0, 0))) ∧
    ∀ (j : Nat) (l : List RC), L[j]? = some l → ∃ A c, W.cell? ⟨b, j, none⟩ = some (.slice A l.length c) ∧ l.length ≤ c ∧ Kd.F kRC W (fun k => ok k ∧ k ≠ b) A l.length l
section
variable {W W1 : World} {ok ok' : Nat → Prop} {v : Value} {L : List (List RC)}
theorem RGL.step (h : RGL W ok v L) (hm : ∀ k, ok k → k < W.heap.size → W1.heap[k]? = W.heap[k]?) : RGL W1 ok v L := by
  obtain ⟨b, cap, rfl, hc, hb, ⟨cs, hx⟩, hr⟩ := h
  have hbl := hm b hb (blk_lt hx)
  refine ⟨b, cap, rfl, hc, hb, ⟨cs, hbl.trans hx⟩, fun j l hj => ?_⟩
  obtain ⟨A, c, h1, h2, h3⟩ := hr j l hj
  exact ⟨A, c, by rw [← h1]; simp [World.cell?, hbl], h2, Kd.F_step h3 (fun k hk hlt => hm k hk.1 hlt)⟩
end

theorem RGL.rd {W : World} {ok : Nat → Prop} {b cap N : Nat} {L : List (List RC)} (h : RGL W ok (.slice (some ⟨b, 0, none⟩) N cap) L) (hs : L.length ≤ 512) : RD kRL W ok (.slice (some ⟨b, 0, none⟩) N cap) L := by
  obtain ⟨b0, cap0, he, hc0, -⟩ := id h
  injection he with e1 e2 e3
  subst e2
  refine ⟨_, cap, rfl, by omega, fun W' hW => ?_⟩
  have h' := h.step hW
  obtain ⟨b', cap', he, hcap, hb, -, hr⟩ := h'
  injection he with he1 he2 he3
  injection he1 with he1
  injection he1 with he1
  subst he1
  refine ⟨rfl, by omega, fun _ => ⟨_, rfl, fun j l hj => ?_⟩⟩
  obtain ⟨A, c, h1, h2, h3⟩ := hr j l hj
  refine ⟨[.slice A l.length c], rfl, ⟨A, c, rfl, h2, Kd.F_now h3⟩, fun i u hi => ?_⟩
  have hi0 : i = 0 := by have := (List.getElem?_eq_some_iff.1 hi).1; simp at this; omega
  subst hi0
  have hu : Value.slice A l.length c = u := by simpa using hi
  subst hu
  have e : (⟨b, 0, none⟩ : Addr).add (j * kRL.sz + 0) = ⟨b, j, none⟩ := by
    show (⟨b, 0, none⟩ : Addr).add (j * 1 + 0) = _
    rw [Nat.mul_one, Nat.add_zero]
    cases j <;> simp [Addr.add]
  rw [e]
  exact h1
end Go.Proofs.Ytblcmcdifgclcaa.Grd
