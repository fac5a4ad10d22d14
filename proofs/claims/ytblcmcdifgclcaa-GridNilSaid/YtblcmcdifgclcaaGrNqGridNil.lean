/- GridNil: what its proof leads to. No condition. -/
import Derived.Test.YtblcmcdifgclcaaGrLqGridNil
namespace Go.Proofs.Ytblcmcdifgclcaa.Grd
open Go.RowKit Go.Proofs.Ytblcmcdifgclcaa Go.Proofs.Ytblcmcdifgclcaa.PGridSame Go.Proofs.YtblcmcdifgclcaaW.PrintWords Go.Proofs.YtblcmcdifgclcaaW.PrintLast Go.Proofs.YtblcmcdifgclcaaW.PrintMore
set_option linter.unusedVariables false
set_option linter.unusedSimpArgs false
set_option maxRecDepth 100000
set_option maxHeartbeats 4000000
attribute [local go_sem] max2_int min2_int max_two min_two
section
variable {P : Program} {ops : Array Oper} {rest : List Oper} {o : Oper} {a : Act} {Q : Exit → Act → World → Prop}
/-- A whole block is stored. -/
theorem step_whole {W : World} {g : Nat} {t T : TypeId} {cs cs' : Array Value} (p x : Operand) (hN : o.dst = none) (hgd : o.guard = none) (ho : o.op = .store t p x) (haddr : a.eval p = .pointer (some ⟨g, 0, none⟩)) (hx : a.eval x = .agg cs') (hb : W.heap[g]? = some (.cells cs T (0, 0))) (hsz : cs.size = cs'.size) (ht : (P.info? t).map (·.size) = some cs'.size) (h1 : ∀ q ∈ cs'.toList, q.oneCell' = true)
    (h : ∀ W1, W1.heap[g]? = some (.cells cs' T (0, 0)) → W.grownBy W1 (some g) → wpList P ops Q rest a W1) : wpList P ops Q (o :: rest) a W := by
  refine wpList_plain hgd fun K hK => ?_
  have hrun := run_store_run (P := P) (o := 0) t (.agg cs') cs'.toList hb rfl (by rw [ht]; simp) (by rw [Array.length_toList]; omega) h1
  obtain ⟨cur', h3, h4, h5⟩ := setCells_row cs'.toList 0 W cs hb (by rw [Array.length_toList]; omega)
  have he : cur' = cs' := by
    apply Array.toList_inj.1
    rw [h5, List.take_zero, List.nil_append, Nat.zero_add, List.drop_eq_nil_of_le (by rw [Array.length_toList, Array.length_toList]; omega), List.append_nil]
  rw [he] at h3
  obtain ⟨s1, s2, s3, s4⟩ := setCells_same g cs'.toList 0 W
  unfold Oper.wp execOp
  simp only [ho, haddr, hx, Sem.run_bind, Sem.run_pure, Result.andThen_ok, hrun]
  show K (a.put o.dst undef) _
  rw [hN]
  exact hK a _ (h _ h3 ⟨s1, s2, s3, by rw [s4]; exact Nat.le_refl _, fun k _ hk => setCells_far _ _ k (fun he => hk (by rw [he]))⟩)
end
end Go.Proofs.Ytblcmcdifgclcaa.Grd
