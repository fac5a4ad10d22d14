/- KeygramTells: what its proof leads to. No condition. -/
import Derived.Test.YtpephndecdkfhaaOpnqKeygramTells
import Derived.Test.YtpephndecdkfhaaRows
namespace Go.Proofs.Ytpephndecdkfhaa
open Go.ChangeShapes Go.WideShapes Go.RowKit Go.Proofs.YtpephndecdkfhaaW.PrintWords Go.Proofs.YtpephndecdkfhaaW.PrintLast Go.Proofs.YtpephndecdkfhaaW.PrintMore
abbrev kdKeys : Kd (List (List Int)) := Kd.slice 27 (Kd.slice 5 (Kd.int .u8))
abbrev kdGram : Kd (Int × Int × Int × Int × Int × List (List Int)) := Kd.pair (Kd.int .u64) (Kd.pair (Kd.int .u64) (Kd.pair (Kd.int .i64) (Kd.pair (Kd.int .i64) (Kd.pair (Kd.int .u64) kdKeys))))
abbrev wfKeys (l : List (List Int)) : Prop := ∀ k ∈ l, ∀ x ∈ k, (Lit.int .u8 x).wf = true
abbrev wfGram (x : Int × Int × Int × Int × Int × List (List Int)) : Prop := (Lit.int .u64 x.1).wf = true ∧ (Lit.int .u64 x.2.1).wf = true ∧ (Lit.int .i64 x.2.2.1).wf = true ∧ (Lit.int .i64 x.2.2.2.1).wf = true ∧ (Lit.int .u64 x.2.2.2.2.1).wf = true ∧ wfKeys x.2.2.2.2.2
theorem opn_Keys : Opn Try.prog 64 kdKeys wfKeys :=
  @Opn.slice _ _ _ _ _ (fun k : List Int => ∀ x ∈ k, (Lit.int .u8 x).wf = true) Try.underlying64 (by kernel_rfl) (@Opn.slice _ _ _ _ _ (fun x : Int => (Lit.int .u8 x).wf = true) Try.underlying27 (by kernel_rfl) (@Opn.int _ _ _ Try.underlying5))
theorem opn_Gram : Opn Try.prog 66 kdGram wfGram := by
  refine @Opn.struct _ _ _ _ _ _ Try.underlying66 (by kernel_rfl) ?_
  refine @Flds.cons _ _ _ _ _ _ _ _ (fun n : Int => (Lit.int .u64 n).wf = true) (fun x : Int × Int × Int × Int × List (List Int) => (Lit.int .u64 x.1).wf = true ∧ (Lit.int .i64 x.2.1).wf = true ∧ (Lit.int .i64 x.2.2.1).wf = true ∧ (Lit.int .u64 x.2.2.2.1).wf = true ∧ wfKeys x.2.2.2.2) ?_ ?_ ?_
  · exact @Opn.int _ _ _ Try.underlying22
  · exact ⟨rfl, by kernel_rfl⟩
  refine @Flds.cons _ _ _ _ _ _ _ _ (fun n : Int => (Lit.int .u64 n).wf = true) (fun x : Int × Int × Int × List (List Int) => (Lit.int .i64 x.1).wf = true ∧ (Lit.int .i64 x.2.1).wf = true ∧ (Lit.int .u64 x.2.2.1).wf = true ∧ wfKeys x.2.2.2) ?_ ?_ ?_
  · exact @Opn.int _ _ _ Try.underlying22
  · exact ⟨rfl, by kernel_rfl⟩
  refine @Flds.cons _ _ _ _ _ _ _ _ (fun n : Int => (Lit.int .i64 n).wf = true) (fun x : Int × Int × List (List Int) => (Lit.int .i64 x.1).wf = true ∧ (Lit.int .u64 x.2.1).wf = true ∧ wfKeys x.2.2) ?_ ?_ ?_
  · exact @Opn.int _ _ _ Try.underlying3
  · exact ⟨rfl, by kernel_rfl⟩
  refine @Flds.cons _ _ _ _ _ _ _ _ (fun n : Int => (Lit.int .i64 n).wf = true) (fun x : Int × List (List Int) => (Lit.int .u64 x.1).wf = true ∧ wfKeys x.2) ?_ ?_ ?_
  · exact @Opn.int _ _ _ Try.underlying3
  · exact ⟨rfl, by kernel_rfl⟩
  refine @Flds.cons _ _ _ _ _ _ _ _ (fun n : Int => (Lit.int .u64 n).wf = true) wfKeys ?_ ?_ ?_
  · exact @Opn.int _ _ _ Try.underlying22
  · exact ⟨rfl, by kernel_rfl⟩
  refine @Flds.one _ _ _ _ _ _ ?_ ?_
  · exact @opn_Keys
  · exact ⟨rfl, by kernel_rfl⟩
set_option maxRecDepth 100000 in
theorem gram_arg {W : World} {base : Nat} {v : Value} {x : Int × Int × Int × Int × Int × List (List Int)} (hv : Value.okWide Try.prog W .any base 66 v) (hK : kdGram.K W x v.cells.toList) :
    ∃ A c, v = .agg #[.int .u64 x.1, .int .u64 x.2.1, .int .i64 x.2.2.1, .int .i64 x.2.2.2.1, .int .u64 x.2.2.2.2.1, .slice A x.2.2.2.2.2.length c] ∧ x.2.2.2.2.2.length ≤ c ∧ Kd.C (Kd.slice 5 (Kd.int .u8)) W A x.2.2.2.2.2.length x.2.2.2.2.2 := by
  obtain ⟨cs, rfl, _⟩ := okWide_struct Try.underlying66 hv
  obtain ⟨e0, e1, he, h0, e2, e3, he1, h1, e4, e5, he3, h3, e6, e7, he5, h5, e8, e9, he7, h7, h8⟩ := hK
  obtain ⟨A, c, rfl, hc, hC⟩ := h8
  simp [Kd.int, Kd.scalar] at h0 h1 h3 h5 h7
  subst h0 h1 h3 h5 h7 he7 he5 he3 he1
  refine ⟨A, c, ?_, hc, hC⟩
  simp only [Value.cells] at he
  congr 1
  exact Array.toList_inj.1 (by rw [he]; rfl)
end Go.Proofs.Ytpephndecdkfhaa
