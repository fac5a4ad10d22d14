/- GridPlays: what its proof leads to. No condition. -/
import Derived.ArgAppend
import Derived.Test.YtblcmcdifgclcaaGreatG6qGridPlays
import Derived.Test.YtblcmcdifgclcaaGreatG23qGridPlays
import Derived.Test.YtblcmcdifgclcaaGreatG24qGridPlays
import Derived.Test.YtblcmcdifgclcaaGreatG27qGridPlays
namespace Go.Proofs.YtblcmcdifgclcaaGreat.Grd
open Go.RowKit Go.Proofs.YtblcmcdifgclcaaGreat Go.Proofs.YtblcmcdifgclcaaGreat.PGridPlays Go.Proofs.YtblcmcdifgclcaaGreatW.PrintWords Go.Proofs.YtblcmcdifgclcaaGreatW.PrintLast Go.Proofs.YtblcmcdifgclcaaGreatW.PrintMore
set_option linter.unusedVariables false
set_option linter.unusedSimpArgs false
set_option maxRecDepth 100000
set_option maxHeartbeats 4000000
attribute [local go_sem] isSome_setCell max2_int min2_int max_two min_two
def RowsC (W : World) (ok : Nat → Prop) (cs : List Value) (L : List (List CS)) : Prop :=
 cs.length = L.length ∧ ∀ (j : Nat) (l : List CS), L[j]? = some l → ∃ A c, cs[j]? = some (.slice A l.length c) ∧ l.length ≤ c ∧ Kd.F kCl W ok A l.length l
section
variable {W W1 : World} {ok ok1 ok2 : Nat → Prop} {v : Value} {L X Y : List (List CS)} {b cap n : Nat}
theorem GL.rows (h : GL W ok (.slice (some ⟨b, 0, none⟩) n cap) L) : ∃ cs, RowsC W (fun k => ok k ∧ k ≠ b) cs L ∧ ∀ j u, cs[j]? = some u → W.cell? ⟨b, j, none⟩ = some u := by
 obtain ⟨b', cap', he, hcap, hb, ⟨cs, hx⟩, hr⟩ := h
 injection he with he1 he2 he3
 injection he1 with he1
 injection he1 with he1
 subst he1
 have hsz : L.length ≤ cs.size := by
  rcases Nat.eq_zero_or_pos L.length with h0 | h0
  ·omega
  ·obtain ⟨A0, c0, h1, -⟩ := hr (L.length - 1) _ (List.getElem?_eq_getElem (by omega))
   rw [blk_cell hx] at h1
   have := (Array.getElem?_eq_some_iff.1 h1).1
   omega
 have hg : ∀ j, j < L.length → (cs.toList.take L.length)[j]? = W.cell? ⟨b, j, none⟩ := fun j hj => by
  rw [blk_cell hx, List.getElem?_take, if_pos hj, Array.getElem?_toList]
 have hl : (cs.toList.take L.length).length = L.length := by rw [List.length_take, Array.length_toList]; exact Nat.min_eq_left hsz
 refine ⟨cs.toList.take L.length, ⟨hl, fun j l hj => ?_⟩, fun j u hj => ?_⟩
 ·obtain ⟨A, c, h1, h2, h3⟩ := hr j l hj
  exact ⟨A, c, by rw [hg j (List.getElem?_eq_some_iff.1 hj).1]; exact h1, h2, h3⟩
 ·rw [← hg j (by have := (List.getElem?_eq_some_iff.1 hj).1; omega)]
  exact hj
theorem RowsC.drop (h : ∃ cs, RowsC W ok cs L ∧ ∀ j u, cs[j]? = some u → W.cell? ⟨b, j, none⟩ = some u) (k : Nat) : ∃ cs, RowsC W ok cs (L.drop k) ∧ ∀ j u, cs[j]? = some u → W.cell? ⟨b, k + j, none⟩ = some u := by
 obtain ⟨cs, ⟨hl, hr⟩, hc⟩ := h
 refine ⟨cs.drop k, ⟨by rw [List.length_drop, List.length_drop, hl], fun j l hj => ?_⟩, fun j u hj => ?_⟩
 ·rw [List.getElem?_drop] at hj ⊢
  exact hr _ _ hj
 ·rw [List.getElem?_drop] at hj
  exact hc _ _ hj
theorem RowsC.join {c1 c2 : List Value} (h1 : RowsC W ok1 c1 X) (h2 : RowsC W ok2 c2 Y) : RowsC W (fun k => ok1 k ∨ ok2 k) (c1 ++ c2) (X ++ Y) := by
 refine ⟨by rw [List.length_append, List.length_append, h1.1, h2.1], fun j l hj => ?_⟩
 rcases Nat.lt_or_ge j X.length with h | h
 ·rw [List.getElem?_append_left h] at hj
  obtain ⟨A, c, a1, a2, a3⟩ := h1.2 j l hj
  exact ⟨A, c, by rw [List.getElem?_append_left (by rw [h1.1]; exact h)]; exact a1, a2, Kd.F_mono a3 (fun _ hk => .inl hk)⟩
 ·rw [List.getElem?_append_right h] at hj
  obtain ⟨A, c, a1, a2, a3⟩ := h2.2 _ l hj
  exact ⟨A, c, by rw [List.getElem?_append_right (by rw [h1.1]; exact h), h1.1]; exact a1, a2, Kd.F_mono a3 (fun _ hk => .inr hk)⟩
theorem GL.ofOwn {cs : List Value} {base m : Nat} (hp : 0 < m) (hm : L.length = m) (h : W.ownsRow base tLn 1 v m cs) (hr : RowsC W ok cs L) (hk : ∀ k, ok k → k < base) (ho : ∀ k, ok k → ok1 k) (hn : ∀ k, base ≤ k → ok1 k) : GL W ok1 v L := by
 obtain ⟨hl, ⟨-, h0⟩ | ⟨g, cap, cur, rfl, hb, hx, hc, -, hs, ht⟩⟩ := h
 ·omega
 ·subst hm
  refine ⟨g, cap, rfl, hc, hn g hb, ⟨cur, hx⟩, fun j l hj => ?_⟩
  obtain ⟨A, c, h1, h2, h3⟩ := hr.2 j l hj
  refine ⟨A, c, ?_, h2, Kd.F_mono h3 (fun k hk' => ⟨ho k hk', by have := hk k hk'; omega⟩)⟩
  have hjl := (List.getElem?_eq_some_iff.1 hj).1
  rw [blk_cell hx, ← Array.getElem?_toList]
  rw [← ht, List.getElem?_take, if_pos (by omega)] at h1
  exact h1
theorem roll_up {base c2 : Nat} (hs : L.length ≤ 512) (hL : GL W ok (.slice (some ⟨b, 0, none⟩) L.length cap) L) (k : Nat) (hk : k ≤ L.length) (hp : 0 < L.length) {l : List CS} {A2 : Option Addr} (hN : Kd.N kL tLn W base ok2 (.slice A2 k c2) (List.replicate k l)) :
 ∃ v1 w1, (∀ ty, (Builtin.append_ #[64, 64] ty #[.slice (some (if L.length = k then ⟨b, 0, none⟩ else ⟨b, k, none⟩)) (L.length - k) (L.length - k), .slice A2 k c2]).run Tryz.prog W = .ok v1 w1) ∧
  W.grownBy w1 none ∧ GL w1 (fun i => (ok i ∨ ok2 i) ∨ W.heap.size ≤ i) v1 (L.drop k ++ List.replicate k l) := by
 obtain ⟨i0, hi, hzz⟩ := Option.map_eq_some_iff.1 infoLn
 simp only [Prod.mk.injEq] at hzz
 obtain ⟨hz0, hz1, hz2⟩ := hzz
 rcases Nat.eq_zero_or_pos k with h0 | h0
 ·subst h0
  refine ⟨_, W, fun ty => by rw [if_neg (by omega), Nat.sub_zero]; exact run_append_zero (P := Tryz.prog) W 64 ty 41 i0 Tryz.underlying64 hi _ A2 L.length c2, grown_refl _ _, ?_⟩
  obtain ⟨b', cap', he, hcap, hb, hx, hr⟩ := hL.mono (ok' := fun i => (ok i ∨ ok2 i) ∨ W.heap.size ≤ i) (fun i hi => .inl (.inl hi))
  injection he with he1 he2 he3
  injection he1 with he1
  injection he1 with he1
  subst he1
  refine ⟨b, L.length, by simp, by simp, hb, hx, fun j l hj => ?_⟩
  simp only [List.drop_zero, List.replicate_zero, List.append_nil] at hj
  exact hr j l hj
 ·have hG := GL.ofN (by rw [List.length_replicate]; exact h0) (Kd.N_bound hN)
  obtain ⟨g2, c2', he, -, hb2, -, -⟩ := id hG
  injection he with he1 he2 he3
  subst he1
  subst he3
  obtain ⟨c1, hc1, hc1c⟩ := RowsC.drop hL.rows k
  obtain ⟨n1, hn1, hn1c⟩ := hG.rows
  have hlo : c1.length = (L.length - k) * 1 := by rw [hc1.1, List.length_drop]; omega
  have hln : n1.length = k * 1 := by rw [hn1.1, List.length_replicate]; omega
  have hadd : ∀ (x : Nat) (j : Nat), (⟨x, 0, none⟩ : Addr).add j = ⟨x, j, none⟩ := fun x j => by cases j <;> simp [Addr.add]
  have hadk : ∀ (j : Nat), (⟨b, k, none⟩ : Addr).add j = ⟨b, k + j, none⟩ := fun j => by cases j <;> simp [Addr.add]
  have hrun : ∀ ty, ∃ v' w', (Builtin.append_ #[64, 64] ty #[.slice (some (if L.length = k then ⟨b, 0, none⟩ else ⟨b, k, none⟩)) (L.length - k) (L.length - k), .slice (some ⟨g2, 0, none⟩) k c2]).run Tryz.prog W = .ok v' w' ∧ w'.ownsRow W.heap.size tLn 1 v' (L.length - k + k) (c1 ++ n1) ∧ W.grownBy w' none := fun ty =>
   run_append_arg_grows (P := Tryz.prog) W 64 ty 41 i0 (.slice none 0 0) 1 24 Tryz.underlying64 hi hz0 hz1 hz2 rfl (by decide) _ (L.length - k) (L.length - k) c1 hlo (fun j u hj => by
    have hjl := (List.getElem?_eq_some_iff.1 hj).1
    rw [if_neg (by omega), hadk]
    exact hc1c j u hj) ⟨g2, 0, none⟩ k c2 n1 hln (fun j u hj => by rw [hadd]; exact hn1c j u hj) (by omega) (by unfold maxLen; omega) (by omega)
  obtain ⟨v', w', hr, ho, hg⟩ := hrun 0
  refine ⟨v', w', fun ty => ?_, hg, ?_⟩
  ·obtain ⟨v2, w2, hr2, -⟩ := hrun ty
   rw [← hr]
   rfl
  ·have hj := hc1.join hn1
   have hj2 : RowsC w' (fun i => ((ok i ∧ i ≠ b) ∨ ((ok2 i ∧ i < W.heap.size) ∧ i ≠ g2)) ∧ i < W.heap.size) (c1 ++ n1) (L.drop k ++ List.replicate k l) :=
    ⟨hj.1, fun j l hj' => by
     obtain ⟨A, c, a1, a2, a3⟩ := hj.2 j l hj'
     exact ⟨A, c, a1, a2, Kd.F_step (Kd.F_bound a3) (fun i hi hlt => hg.block i hlt (by simp))⟩⟩
   exact GL.ofOwn (by omega) (by rw [List.length_append, List.length_drop, List.length_replicate]) ho hj2 (fun i hi => hi.2) (fun i hi => .inl (hi.1.elim (fun h => .inl h.1) (fun h => .inr h.1.1))) (fun i hi => .inr hi)
theorem roll_step {ops : Array Oper} {o : Oper} {a : Act} {Q : Exit → Act → World → Prop} {Kc : Act → World → Prop} {base c2 N : Nat} (hw : Region.wanted o (yielded ops a.tmps) = true) (s x : Operand)
 (ho : o.op = .call { callee := .builtin .append, args := #[s, x], argTypes := #[64, 64] }) (hn : L.length = N) (hs : N ≤ 512) (hL : GL W ok (.slice (some ⟨b, 0, none⟩) L.length cap) L) (k : Nat) (hk : k ≤ N) (hp : 0 < N) {l : List CS} {A2 : Option Addr} (A9 : Addr)
 (hA : (if N = k then ⟨b, 0, none⟩ else ⟨b, k, none⟩) = A9) (he : a.eval s = .slice (some A9) (N - k) (N - k)) (hx : a.eval x = .slice A2 k c2) (hN : Kd.N kL tLn W base ok2 (.slice A2 k c2) (List.replicate k l))
 (h : ∀ v1 w1, W.grownBy w1 none → GL w1 (fun i => (ok i ∨ ok2 i) ∨ W.heap.size ≤ i) v1 (L.drop k ++ List.replicate k l) → Kc (a.put o.dst v1) w1) :
 if Region.wanted o (yielded ops a.tmps) = true then Oper.wp Tryz.prog o a W Kc Q else Kc (a.put o.dst undef) W := by
 subst hn
 subst hA
 obtain ⟨v1, w1, hr, hg, hG⟩ := roll_up hs hL k hk hp hN
 rw [if_pos hw]
 unfold Oper.wp execOp
 simp only [ho, resolve, invoke, builtin, Sem.run_bind, Sem.run_pure, Result.andThen_ok, List.map_toArray, List.map_cons, List.map_nil, he, hx, hr]
 exact h _ _ hg hG
theorem GL.first (h : GL W ok (.slice (some ⟨b, 0, none⟩) n cap) L) (hs : L.length ≤ 512) (m : Nat) (hm : m ≤ L.length) : Kd.F kL W ok (some ⟨b, 0, none⟩) m (L.take m) := by
 intro W' hW
 have h' := h.step hW
 obtain ⟨b', cap', he, hcap, hb, -, hr⟩ := h'
 injection he with he1 he2 he3
 injection he1 with he1
 injection he1 with he1
 subst he1
 refine ⟨by rw [List.length_take]; omega, by omega, fun _ => ⟨_, rfl, fun j l hj => ?_⟩⟩
 rw [List.getElem?_take] at hj
 split at hj
 ·obtain ⟨A, c, h1, h2, h3⟩ := hr j l hj
  refine ⟨[.slice A l.length c], rfl, ⟨A, c, rfl, h2, Kd.F_now h3⟩, fun i u hi => ?_⟩
  have hi0 : i = 0 := by have := (List.getElem?_eq_some_iff.1 hi).1; simp at this; omega
  subst hi0
  have hu : Value.slice A l.length c = u := by simpa using hi
  subst hu
  have e : (⟨b, 0, none⟩ : Addr).add (j * kL.sz + 0) = ⟨b, j, none⟩ := by
   show (⟨b, 0, none⟩ : Addr).add (j * 1 + 0) = _
   rw [Nat.mul_one, Nat.add_zero]
   cases j <;> simp [Addr.add]
  rw [e]
  exact h1
 ·cases hj
end
end Go.Proofs.YtblcmcdifgclcaaGreat.Grd
