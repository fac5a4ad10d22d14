/- GridNil: what its proof leads to. No condition. -/
import Derived.Test.YtblcmcdifgclcaaOpnqGridNil
import Derived.Test.YtblcmcdifgclcaaRows
namespace Go.Proofs.Ytblcmcdifgclcaa
open Go.ChangeShapes Go.WideShapes Go.RowKit Go.Proofs.YtblcmcdifgclcaaW.PrintWords Go.Proofs.YtblcmcdifgclcaaW.PrintLast Go.Proofs.YtblcmcdifgclcaaW.PrintMore
abbrev kdPen : Kd (Int × Int × Int) := Kd.pair (Kd.int .u8) (Kd.pair (Kd.int .u8) (Kd.int .u8))
abbrev kdCell : Kd (Int × List Int × Int × Int × Int × Int) := Kd.pair (Kd.int .i32) (Kd.pair (Kd.arr 2 (Kd.int .i32) (by decide)) (Kd.pair (Kd.int .u8) kdPen))
abbrev wfPen (x : Int × Int × Int) : Prop := (Lit.int .u8 x.1).wf = true ∧ (Lit.int .u8 x.2.1).wf = true ∧ (Lit.int .u8 x.2.2).wf = true
abbrev wfCell (x : Int × List Int × Int × Int × Int × Int) : Prop := (Lit.int .i32 x.1).wf = true ∧ (∀ a ∈ x.2.1, (Lit.int .i32 a).wf = true) ∧ (Lit.int .u8 x.2.2.1).wf = true ∧ wfPen x.2.2.2
theorem opn_Pen : Opn Try.prog 24 kdPen wfPen := by
  refine @Opn.struct _ _ _ _ _ _ Try.underlying24 (by kernel_rfl) ?_
  refine @Flds.cons _ _ _ _ _ _ _ _ (fun n : Int => (Lit.int .u8 n).wf = true) (fun x : Int × Int => (Lit.int .u8 x.1).wf = true ∧ (Lit.int .u8 x.2).wf = true) ?_ ?_ ?_
  · exact @Opn.int _ _ _ Try.underlying5
  · exact ⟨rfl, by kernel_rfl⟩
  · refine @Flds.cons _ _ _ _ _ _ _ _ (fun n : Int => (Lit.int .u8 n).wf = true) (fun n : Int => (Lit.int .u8 n).wf = true) ?_ ?_ ?_
    · exact @Opn.int _ _ _ Try.underlying5
    · exact ⟨rfl, by kernel_rfl⟩
    · refine @Flds.one _ _ _ _ _ _ ?_ ?_
      · exact @Opn.int _ _ _ Try.underlying5
      · exact ⟨rfl, by kernel_rfl⟩
theorem opn_Cell : Opn Try.prog 26 kdCell wfCell := by
  refine @Opn.struct _ _ _ _ _ _ Try.underlying26 (by kernel_rfl) ?_
  refine @Flds.cons _ _ _ _ _ _ _ _ (fun n : Int => (Lit.int .i32 n).wf = true) (fun x : List Int × Int × Int × Int × Int => (∀ a ∈ x.1, (Lit.int .i32 a).wf = true) ∧ (Lit.int .u8 x.2.1).wf = true ∧ wfPen x.2.2) ?_ ?_ ?_
  · exact @Opn.int _ _ _ Try.underlying21
  · exact ⟨rfl, by kernel_rfl⟩
  · refine @Flds.cons _ _ _ _ _ _ _ _ (fun xs : List Int => ∀ a ∈ xs, (Lit.int .i32 a).wf = true) (fun x : Int × Int × Int × Int => (Lit.int .u8 x.1).wf = true ∧ wfPen x.2) ?_ ?_ ?_
    · exact @Opn.array _ _ _ _ _ _ _ (by decide) Try.underlying22 (by kernel_rfl) (by kernel_rfl) (@Opn.int _ _ _ Try.underlying21)
    · exact ⟨rfl, by kernel_rfl⟩
    · refine @Flds.cons _ _ _ _ _ _ _ _ (fun n : Int => (Lit.int .u8 n).wf = true) wfPen ?_ ?_ ?_
      · exact @Opn.int _ _ _ Try.underlying5
      · exact ⟨rfl, by kernel_rfl⟩
      · refine @Flds.one _ _ _ _ _ _ ?_ ?_
        · exact @opn_Pen
        · exact ⟨rfl, by kernel_rfl⟩
theorem arr2_K {W : World} {xs : List Int} {cs : List Value} (h : (Kd.arr 2 (Kd.int .i32) (by decide)).K W xs cs) : ∃ a b, xs = [a, b] ∧ cs = [.int .i32 a, .int .i32 b] := by
  obtain ⟨hl, hc, hr⟩ := h
  match xs, hl with
  | [a, b], _ =>
    have h0 := hr 0 a rfl
    have h1 := hr 1 b rfl
    match cs, hc with
    | [u, v], _ =>
      simp [Kd.int, Kd.scalar] at h0 h1
      exact ⟨a, b, rfl, by rw [h0, h1]⟩
end Go.Proofs.Ytblcmcdifgclcaa
