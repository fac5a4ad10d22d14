/- LineMakes: what its proof leads to. No condition. -/
import Derived.Test.YtblcmcdifgclcaaOpnqLineMakes
import Derived.Test.YtblcmcdifgclcaaRows
namespace Go.Proofs.Ytblcmcdifgclcaa
open Go.ChangeShapes Go.WideShapes Go.RowKit Go.Proofs.YtblcmcdifgclcaaW.PrintWords Go.Proofs.YtblcmcdifgclcaaW.PrintLast Go.Proofs.YtblcmcdifgclcaaW.PrintMore
abbrev kdPen : Kd (Int × Int × Int) := Kd.pair (Kd.int .u8) (Kd.pair (Kd.int .u8) (Kd.int .u8))
abbrev kdCell : Kd (Int × List Int × Int × Int × Int × Int) := Kd.pair (Kd.int .i32) (Kd.pair (Kd.arr 2 (Kd.int .i32) (by decide)) (Kd.pair (Kd.int .u8) kdPen))
abbrev wfPen (x : Int × Int × Int) : Prop := (Lit.int .u8 x.1).wf = true ∧ (Lit.int .u8 x.2.1).wf = true ∧ (Lit.int .u8 x.2.2).wf = true
abbrev wfCell (x : Int × List Int × Int × Int × Int × Int) : Prop := (Lit.int .i32 x.1).wf = true ∧ (∀ a ∈ x.2.1, (Lit.int .i32 a).wf = true) ∧ (Lit.int .u8 x.2.2.1).wf = true ∧ wfPen x.2.2.2
theorem opn_Pen : Opn Try.prog 24 kdPen wfPen := by
  refine @Opn.struct _ _ _ _ _ _ Try.underlying24 (by kernel_rfl) ?_
  refine @Flds.cons _ _ _ _ _ _ _ _ (fun n : Int => (Lit.int .u8 n).wf = true) (fun x : Int × Int => (Lit.int .u8 x.1).wf = true ∧ (Lit.int .u8 x.2).wf = true) ?_ ?_ ?_
  · exact @Opn.int _ _ _ Try.underlying5
  · exact ⟨rfl, by kernel_rfl⟩
  · refine @Flds.cons _ _ _ _ _ _ _ _ (fun n : Int => (Lit.int .u8 n).wf = true) (fun n : Int => (Lit.int .u8 n).wf = true) ?_ ?_ ?_
    · exact @Opn.int _ _ _ Try.underlying5
    · exact ⟨rfl, by kernel_rfl⟩
    · refine @Flds.one _ _ _ _ _ _ ?_ ?_
      · exact @Opn.int _ _ _ Try.underlying5
      · exact ⟨rfl, by kernel_rfl⟩
theorem opn_Cell : Opn Try.prog 26 kdCell wfCell := by
  refine @Opn.struct _ _ _ _ _ _ Try.underlying26 (by kernel_rfl) ?_
  refine @Flds.cons _ _ _ _ _ _ _ _ (fun n : Int => (Lit.int .i32 n).wf = true) (fun x : List Int × Int × Int × Int × Int => (∀ a ∈ x.1, (Lit.int .i32 a).wf = true) ∧ (Lit.int .u8 x.2.1).wf = true ∧ wfPen x.2.2) ?_ ?_ ?_
  · exact @Opn.int _ _ _ Try.underlying21
  · exact ⟨rfl, by kernel_rfl⟩
  · refine @Flds.cons _ _ _ _ _ _ _ _ (fun xs : List Int => ∀ a ∈ xs, (Lit.int .i32 a).wf = true) (fun x : Int × Int × Int × Int => (Lit.int .u8 x.1).wf = true ∧ wfPen x.2) ?_ ?_ ?_
    · exact @Opn.array _ _ _ _ _ _ _ (by decide) Try.underlying22 (by kernel_rfl) (by kernel_rfl) (@Opn.int _ _ _ Try.underlying21)
    · exact ⟨rfl, by kernel_rfl⟩
    · refine @Flds.cons _ _ _ _ _ _ _ _ (fun n : Int => (Lit.int .u8 n).wf = true) wfPen ?_ ?_ ?_
      · exact @Opn.int _ _ _ Try.underlying5
      · exact ⟨rfl, by kernel_rfl⟩
      · refine @Flds.one _ _ _ _ _ _ ?_ ?_
        · exact @opn_Pen
        · exact ⟨rfl, by kernel_rfl⟩
theorem arr2_K {W : World} {xs : List Int} {cs : List Value} (h : (Kd.arr 2 (Kd.int .i32) (by decide)).K W xs cs) : ∃ a b, xs = [a, b] ∧ cs = [.int .i32 a, .int .i32 b] := by
  obtain ⟨hl, hc, hr⟩ := h
  match xs, hl with
  | [a, b], _ =>
    have h0 := hr 0 a rfl
    have h1 := hr 1 b rfl
    match cs, hc with
    | [u, v], _ =>
      simp [Kd.int, Kd.scalar] at h0 h1
      exact ⟨a, b, rfl, by rw [h0, h1]⟩
set_option maxRecDepth 100000 in
theorem pen_arg {W : World} {base : Nat} {v : Value} {x : Int × Int × Int} (hv : Value.okWide Try.prog W .any base 24 v) (hK : kdPen.K W x v.cells.toList) : v = .agg #[.int .u8 x.1, .int .u8 x.2.1, .int .u8 x.2.2] := by
  obtain ⟨cs, rfl, _⟩ := okWide_struct Try.underlying24 hv
  obtain ⟨e0, e1, he, h0, e2, e3, he1, h1, h2⟩ := hK
  simp [Kd.int, Kd.scalar] at h0 h1 h2
  subst h0 h1 h2 he1
  simp only [Value.cells] at he
  congr 1
  exact Array.toList_inj.1 (by rw [he]; rfl)
set_option maxRecDepth 100000 in
theorem cell_arg {W : World} {base : Nat} {v : Value} {x : Int × List Int × Int × Int × Int × Int} (hv : Value.okWide Try.prog W .any base 26 v) (hK : kdCell.K W x v.cells.toList) :
    ∃ a b, x.2.1 = [a, b] ∧ v = .agg #[.int .i32 x.1, .int .i32 a, .int .i32 b, .int .u8 x.2.2.1, .int .u8 x.2.2.2.1, .int .u8 x.2.2.2.2.1, .int .u8 x.2.2.2.2.2] := by
  obtain ⟨cs, rfl, _⟩ := okWide_struct Try.underlying26 hv
  obtain ⟨e0, e1, he, h0, e2, e3, he1, h1, e4, e5, he3, h3, e6, e7, he5, h5, e8, e9, he7, h7, h8⟩ := hK
  obtain ⟨a, b, hx, hab⟩ := arr2_K h1
  refine ⟨a, b, hx, ?_⟩
  simp [Kd.int, Kd.scalar] at h0 h3 h5 h7 h8
  subst h0 h3 h5 h7 h8 hab
  simp only [Value.cells] at he
  congr 1
  exact Array.toList_inj.1 (by rw [he, he1, he3, he5, he7]; rfl)
end Go.Proofs.Ytblcmcdifgclcaa
