/- GridNil: what its proof leads to. No condition. -/
import Derived.Test.YtblcmcdifgclcaaGrZqGridNil
import Derived.Test.YtblcmcdifgclcaaOpnCellqGridNil
namespace Go.Proofs.Ytblcmcdifgclcaa.Grd
open Go.ChangeShapes Go.WideShapes Go.RowKit Go.Proofs.Ytblcmcdifgclcaa Go.Proofs.Ytblcmcdifgclcaa.PGridSame Go.Proofs.YtblcmcdifgclcaaW.PrintWords Go.Proofs.YtblcmcdifgclcaaW.PrintLast Go.Proofs.YtblcmcdifgclcaaW.PrintMore
set_option linter.unusedVariables false
set_option linter.unusedSimpArgs false
theorem C_map {α β : Type} {d : Kd α} {d' : Kd β} (f : α → β) {w : World} {A : Option Addr} {n : Nat} {l : List α} (hs : d.sz = d'.sz) (h : d.C w A n l) (hf : ∀ x ∈ l, ∀ cs, d.K w x cs → d'.K w (f x) cs) : d'.C w A n (l.map f) := by
  obtain ⟨h1, h2, h3⟩ := h
  refine ⟨by rw [List.length_map]; exact h1, h2, fun h0 => ?_⟩
  obtain ⟨ad, e, hc⟩ := h3 h0
  refine ⟨ad, e, fun j p hj => ?_⟩
  rw [List.getElem?_map] at hj
  obtain ⟨x, hx, rfl⟩ := Option.map_eq_some_iff.1 hj
  obtain ⟨c, hl, hk, hcell⟩ := hc j x hx
  exact ⟨c, by rw [hl, hs], hf x (List.mem_of_getElem? hx) c hk, by rw [← hs]; exact hcell⟩
/-- A cell, as the printed texts have it. -/
def toS (x : Int × List Int × Int × Int × Int × Int) : S26 := ⟨x.1, ⟨x.2.1.getD 0 0, x.2.1.getD 1 0⟩, x.2.2.1, ⟨x.2.2.2.1, x.2.2.2.2.1, x.2.2.2.2.2⟩⟩
set_option maxRecDepth 100000 in
theorem toS_K {W : World} {x : Int × List Int × Int × Int × Int × Int} {cs : List Value} (hK : kdCell.K W x cs) : k26.K W (toS x) cs := by
  obtain ⟨e0, e1, he, h0, e2, e3, he1, h1, e4, e5, he3, h3, e6, e7, he5, h5, e8, e9, he7, h7, h8⟩ := hK
  obtain ⟨a, b, hx, hab⟩ := arr2_K h1
  simp [Kd.int, Kd.scalar] at h0 h3 h5 h7 h8
  subst h0 h3 h5 h7 h8 hab
  have := k26_mk W (toS x)
  rw [he, he1, he3, he5, he7]
  unfold toS at this ⊢
  rw [hx] at this ⊢
  exact this
abbrev kdCells : Kd (List (Int × List Int × Int × Int × Int × Int)) := Kd.slice 26 kdCell
abbrev TAct : Type := Int × Int × Int × Int × (Int × List Int × Int × Int × Int × Int) × Int × (Int × Int × Int) × List (Int × List Int × Int × Int × Int × Int)
abbrev kdAct : Kd TAct := (Kd.pair (Kd.int .i64) (Kd.pair (Kd.int .i64) (Kd.pair (Kd.int .i64) (Kd.pair (Kd.int .i64) (Kd.pair kdCell (Kd.pair (Kd.int .i32) (Kd.pair kdPen kdCells)))))))
abbrev wfCells (l : List (Int × List Int × Int × Int × Int × Int)) : Prop := ∀ y ∈ l, wfCell y
abbrev wfAct (x : TAct) : Prop := (Lit.int .i64 x.1).wf = true ∧ (Lit.int .i64 x.2.1).wf = true ∧ (Lit.int .i64 x.2.2.1).wf = true ∧ (Lit.int .i64 x.2.2.2.1).wf = true ∧ wfCell x.2.2.2.2.1 ∧ (Lit.int .i32 x.2.2.2.2.2.1).wf = true ∧ wfPen x.2.2.2.2.2.2.1 ∧ wfCells x.2.2.2.2.2.2.2
theorem opn_Cells : Opn Try.prog 58 kdCells wfCells :=
  @Opn.slice _ _ _ _ _ wfCell Try.underlying58 (by kernel_rfl) (fun {H} => @opn_Cell H)
theorem opn_Act : Opn Try.prog 87 kdAct wfAct := by
  refine @Opn.struct _ _ _ _ _ _ Try.underlying87 (by kernel_rfl) ?_
  refine @Flds.cons _ _ _ _ _ _ _ _ (fun n : Int => (Lit.int .i64 n).wf = true) (fun x : Int × Int × Int × (Int × List Int × Int × Int × Int × Int) × Int × (Int × Int × Int) × List (Int × List Int × Int × Int × Int × Int) => (Lit.int .i64 x.1).wf = true ∧ (Lit.int .i64 x.2.1).wf = true ∧ (Lit.int .i64 x.2.2.1).wf = true ∧ wfCell x.2.2.2.1 ∧ (Lit.int .i32 x.2.2.2.2.1).wf = true ∧ wfPen x.2.2.2.2.2.1 ∧ wfCells x.2.2.2.2.2.2) ?_ ?_ ?_
  · exact @Opn.int _ _ _ Try.underlying3
  · exact ⟨rfl, by kernel_rfl⟩
  refine @Flds.cons _ _ _ _ _ _ _ _ (fun n : Int => (Lit.int .i64 n).wf = true) (fun x : Int × Int × (Int × List Int × Int × Int × Int × Int) × Int × (Int × Int × Int) × List (Int × List Int × Int × Int × Int × Int) => (Lit.int .i64 x.1).wf = true ∧ (Lit.int .i64 x.2.1).wf = true ∧ wfCell x.2.2.1 ∧ (Lit.int .i32 x.2.2.2.1).wf = true ∧ wfPen x.2.2.2.2.1 ∧ wfCells x.2.2.2.2.2) ?_ ?_ ?_
  · exact @Opn.int _ _ _ Try.underlying3
  · exact ⟨rfl, by kernel_rfl⟩
  refine @Flds.cons _ _ _ _ _ _ _ _ (fun n : Int => (Lit.int .i64 n).wf = true) (fun x : Int × (Int × List Int × Int × Int × Int × Int) × Int × (Int × Int × Int) × List (Int × List Int × Int × Int × Int × Int) => (Lit.int .i64 x.1).wf = true ∧ wfCell x.2.1 ∧ (Lit.int .i32 x.2.2.1).wf = true ∧ wfPen x.2.2.2.1 ∧ wfCells x.2.2.2.2) ?_ ?_ ?_
  · exact @Opn.int _ _ _ Try.underlying3
  · exact ⟨rfl, by kernel_rfl⟩
  refine @Flds.cons _ _ _ _ _ _ _ _ (fun n : Int => (Lit.int .i64 n).wf = true) (fun x : (Int × List Int × Int × Int × Int × Int) × Int × (Int × Int × Int) × List (Int × List Int × Int × Int × Int × Int) => wfCell x.1 ∧ (Lit.int .i32 x.2.1).wf = true ∧ wfPen x.2.2.1 ∧ wfCells x.2.2.2) ?_ ?_ ?_
  · exact @Opn.int _ _ _ Try.underlying3
  · exact ⟨rfl, by kernel_rfl⟩
  refine @Flds.cons _ _ _ _ _ _ _ _ (fun n : (Int × List Int × Int × Int × Int × Int) => wfCell n) (fun x : Int × (Int × Int × Int) × List (Int × List Int × Int × Int × Int × Int) => (Lit.int .i32 x.1).wf = true ∧ wfPen x.2.1 ∧ wfCells x.2.2) ?_ ?_ ?_
  · exact @opn_Cell
  · exact ⟨rfl, by kernel_rfl⟩
  refine @Flds.cons _ _ _ _ _ _ _ _ (fun n : Int => (Lit.int .i32 n).wf = true) (fun x : (Int × Int × Int) × List (Int × List Int × Int × Int × Int × Int) => wfPen x.1 ∧ wfCells x.2) ?_ ?_ ?_
  · exact @Opn.int _ _ _ Try.underlying21
  · exact ⟨rfl, by kernel_rfl⟩
  refine @Flds.cons _ _ _ _ _ _ _ _ (fun n : (Int × Int × Int) => wfPen n) (fun x : List (Int × List Int × Int × Int × Int × Int) => wfCells x) ?_ ?_ ?_
  · exact @opn_Pen
  · exact ⟨rfl, by kernel_rfl⟩
  refine @Flds.one _ _ _ _ _ _ ?_ ?_
  · exact @opn_Cells
  · exact ⟨rfl, by kernel_rfl⟩
/-- An act, in plain Lean. -/
structure AV where
  k : Int
  r : Int
  c : Int
  t : Int
  x : CS
  m : Int
  p0 : Int
  p1 : Int
  p2 : Int
  l : List CS
abbrev actL (a : AV) (A : Option Addr) (n c : Nat) : List Value := [.int .i64 a.k, .int .i64 a.r, .int .i64 a.c, .int .i64 a.t, .int .i32 a.x.f0, .int .i32 a.x.f1.f0, .int .i32 a.x.f1.f1, .int .u8 a.x.f2, .int .u8 a.x.f3.f0, .int .u8 a.x.f3.f1, .int .u8 a.x.f3.f2, .int .i32 a.m, .int .u8 a.p0, .int .u8 a.p1, .int .u8 a.p2, .slice A n c]
abbrev actV (a : AV) (A : Option Addr) (n c : Nat) : Value := .agg #[.int .i64 a.k, .int .i64 a.r, .int .i64 a.c, .int .i64 a.t, .int .i32 a.x.f0, .int .i32 a.x.f1.f0, .int .i32 a.x.f1.f1, .int .u8 a.x.f2, .int .u8 a.x.f3.f0, .int .u8 a.x.f3.f1, .int .u8 a.x.f3.f2, .int .i32 a.m, .int .u8 a.p0, .int .u8 a.p1, .int .u8 a.p2, .slice A n c]
abbrev actB (a : AV) (A : Option Addr) (n c : Nat) : Obj := .cells #[.int .i64 a.k, .int .i64 a.r, .int .i64 a.c, .int .i64 a.t, .int .i32 a.x.f0, .int .i32 a.x.f1.f0, .int .i32 a.x.f1.f1, .int .u8 a.x.f2, .int .u8 a.x.f3.f0, .int .u8 a.x.f3.f1, .int .u8 a.x.f3.f2, .int .i32 a.m, .int .u8 a.p0, .int .u8 a.p1, .int .u8 a.p2, .slice A n c] 87 (0, 0)
def toA (x : TAct) : AV := ⟨x.1, x.2.1, x.2.2.1, x.2.2.2.1, toS x.2.2.2.2.1, x.2.2.2.2.2.1, x.2.2.2.2.2.2.1.1, x.2.2.2.2.2.2.1.2.1, x.2.2.2.2.2.2.1.2.2, x.2.2.2.2.2.2.2.map toS⟩
set_option maxRecDepth 100000 in
theorem act_K {W : World} {x : TAct} {cs : List Value} (hK : kdAct.K W x cs) : ∃ A c, cs = actL (toA x) A (toA x).l.length c ∧ (toA x).l.length ≤ c ∧ Kd.C kCl W A (toA x).l.length (toA x).l := by
  obtain ⟨e0, r0, he, h0, e1, r1, he1, h1, e2, r2, he2, h2, e3, r3, he3, h3, e4, r4, he4, h4, e5, r5, he5, h5, e6, r6, he6, h6, A, c, h7, hc, hC⟩ := hK
  obtain ⟨p0, q0, hp, hp0, p1, q1, hq, hp1, hp2⟩ := h6
  simp [Kd.int, Kd.scalar] at h0 h1 h2 h3 h5 hp0 hp1 hp2
  have h4' := k26_open (toS_K h4)
  have hC' := C_map toS (d' := k26) rfl hC (fun x _ cs h => toS_K h)
  subst h0 h1 h2 h3 h5 hp0 hp1 hp2 h4' h7 hq hp he6 he5 he4 he3 he2 he1 he
  have e : (toA x).l.length = x.2.2.2.2.2.2.2.length := by show (List.map toS _).length = _; rw [List.length_map]
  rw [e]
  exact ⟨A, c, rfl, hc, hC'⟩
set_option maxRecDepth 100000 in
theorem act_arg {W : World} {base : Nat} {v : Value} {x : TAct} (hv : Value.okWide Try.prog W .any base 87 v) (hK : kdAct.K W x v.cells.toList) :
    ∃ A c, v = actV (toA x) A (toA x).l.length c ∧ (toA x).l.length ≤ c ∧ Kd.C kCl W A (toA x).l.length (toA x).l := by
  obtain ⟨cs, rfl, _⟩ := okWide_struct Try.underlying87 hv
  obtain ⟨A, c, he, hc, hC⟩ := act_K hK
  refine ⟨A, c, ?_, hc, hC⟩
  simp only [Value.cells] at he
  congr 1
  exact Array.toList_inj.1 (by rw [he])
theorem acells {W : World} {b : Nat} {a : AV} {A : Option Addr} {n c : Nat} (h : W.heap[b]? = some (actB a A n c)) : W.cell? ⟨b, 0, none⟩ = some (.int .i64 a.k) ∧ W.cell? ⟨b, 1, none⟩ = some (.int .i64 a.r) ∧ W.cell? ⟨b, 2, none⟩ = some (.int .i64 a.c) ∧ W.cell? ⟨b, 3, none⟩ = some (.int .i64 a.t) ∧ W.cell? ⟨b, 4, none⟩ = some (.int .i32 a.x.f0) ∧ W.cell? ⟨b, 5, none⟩ = some (.int .i32 a.x.f1.f0) ∧ W.cell? ⟨b, 6, none⟩ = some (.int .i32 a.x.f1.f1) ∧ W.cell? ⟨b, 7, none⟩ = some (.int .u8 a.x.f2) ∧ W.cell? ⟨b, 8, none⟩ = some (.int .u8 a.x.f3.f0) ∧ W.cell? ⟨b, 9, none⟩ = some (.int .u8 a.x.f3.f1) ∧ W.cell? ⟨b, 10, none⟩ = some (.int .u8 a.x.f3.f2) ∧ W.cell? ⟨b, 11, none⟩ = some (.int .i32 a.m) ∧ W.cell? ⟨b, 12, none⟩ = some (.int .u8 a.p0) ∧ W.cell? ⟨b, 13, none⟩ = some (.int .u8 a.p1) ∧ W.cell? ⟨b, 14, none⟩ = some (.int .u8 a.p2) ∧ W.cell? ⟨b, 15, none⟩ = some (.slice A n c) :=
  ⟨(blk_cell h 0).trans rfl, (blk_cell h 1).trans rfl, (blk_cell h 2).trans rfl, (blk_cell h 3).trans rfl, (blk_cell h 4).trans rfl, (blk_cell h 5).trans rfl, (blk_cell h 6).trans rfl, (blk_cell h 7).trans rfl, (blk_cell h 8).trans rfl, (blk_cell h 9).trans rfl, (blk_cell h 10).trans rfl, (blk_cell h 11).trans rfl, (blk_cell h 12).trans rfl, (blk_cell h 13).trans rfl, (blk_cell h 14).trans rfl, (blk_cell h 15).trans rfl⟩
end Go.Proofs.Ytblcmcdifgclcaa.Grd
