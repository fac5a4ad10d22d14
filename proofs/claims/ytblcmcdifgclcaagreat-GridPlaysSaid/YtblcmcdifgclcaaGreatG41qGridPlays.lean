/- GridPlays: what its proof leads to. No condition. -/
import Derived.Test.YtblcmcdifgclcaaGreatRows
import Derived.Test.YtblcmcdifgclcaaGreatG6qGridPlays
import Derived.Test.YtblcmcdifgclcaaGreatG23qGridPlays
import Derived.Test.YtblcmcdifgclcaaGreatG24qGridPlays
import Derived.Test.YtblcmcdifgclcaaGreatG26qGridPlays
import Derived.Test.YtblcmcdifgclcaaGreatG27qGridPlays
import Derived.Test.YtblcmcdifgclcaaGreatG31qGridPlays
import Derived.Test.YtblcmcdifgclcaaGreatG32qGridPlays
import Derived.Test.YtblcmcdifgclcaaGreatG36qGridPlays
import Derived.Test.YtblcmcdifgclcaaGreatG39qGridPlays
import Derived.Test.YtblcmcdifgclcaaGreatG40qGridPlays
namespace Go.Proofs.YtblcmcdifgclcaaGreat
open Go.ChangeShapes Go.WideShapes Go.RowKit Go.Proofs.YtblcmcdifgclcaaGreatW.PrintWords Go.Proofs.YtblcmcdifgclcaaGreatW.PrintLast Go.Proofs.YtblcmcdifgclcaaGreatW.PrintMore
abbrev kdPen : Kd (Int × Int × Int) := Kd.pair (Kd.int .u8) (Kd.pair (Kd.int .u8) (Kd.int .u8))
abbrev kdCell : Kd (Int × List Int × Int × Int × Int × Int) := Kd.pair (Kd.int .i32) (Kd.pair (Kd.arr 2 (Kd.int .i32) (by decide)) (Kd.pair (Kd.int .u8) kdPen))
abbrev wfPen (x : Int × Int × Int) : Prop := (Lit.int .u8 x.1).wf = true ∧ (Lit.int .u8 x.2.1).wf = true ∧ (Lit.int .u8 x.2.2).wf = true
abbrev wfCell (x : Int × List Int × Int × Int × Int × Int) : Prop := (Lit.int .i32 x.1).wf = true ∧ (∀ a ∈ x.2.1, (Lit.int .i32 a).wf = true) ∧ (Lit.int .u8 x.2.2.1).wf = true ∧ wfPen x.2.2.2
theorem opn_Pen : Opn Tryz.prog 38 kdPen wfPen := by
 refine @Opn.struct _ _ _ _ _ _ Tryz.underlying38 (by kernel_rfl) ?_
 refine @Flds.cons _ _ _ _ _ _ _ _ (fun n : Int => (Lit.int .u8 n).wf = true) (fun x : Int × Int => (Lit.int .u8 x.1).wf = true ∧ (Lit.int .u8 x.2).wf = true) ?_ ?_ ?_
 ·exact @Opn.int _ _ _ Tryz.underlying5
 ·exact ⟨rfl, by kernel_rfl⟩
 ·refine @Flds.cons _ _ _ _ _ _ _ _ (fun n : Int => (Lit.int .u8 n).wf = true) (fun n : Int => (Lit.int .u8 n).wf = true) ?_ ?_ ?_
  ·exact @Opn.int _ _ _ Tryz.underlying5
  ·exact ⟨rfl, by kernel_rfl⟩
  ·refine @Flds.one _ _ _ _ _ _ ?_ ?_
   ·exact @Opn.int _ _ _ Tryz.underlying5
   ·exact ⟨rfl, by kernel_rfl⟩
theorem opn_Cell : Opn Tryz.prog 40 kdCell wfCell := by
 refine @Opn.struct _ _ _ _ _ _ Tryz.underlying40 (by kernel_rfl) ?_
 refine @Flds.cons _ _ _ _ _ _ _ _ (fun n : Int => (Lit.int .i32 n).wf = true) (fun x : List Int × Int × Int × Int × Int => (∀ a ∈ x.1, (Lit.int .i32 a).wf = true) ∧ (Lit.int .u8 x.2.1).wf = true ∧ wfPen x.2.2) ?_ ?_ ?_
 ·exact @Opn.int _ _ _ Tryz.underlying21
 ·exact ⟨rfl, by kernel_rfl⟩
 ·refine @Flds.cons _ _ _ _ _ _ _ _ (fun xs : List Int => ∀ a ∈ xs, (Lit.int .i32 a).wf = true) (fun x : Int × Int × Int × Int => (Lit.int .u8 x.1).wf = true ∧ wfPen x.2) ?_ ?_ ?_
  ·exact @Opn.array _ _ _ _ _ _ _ (by decide) Tryz.underlying36 (by kernel_rfl) (by kernel_rfl) (@Opn.int _ _ _ Tryz.underlying21)
  ·exact ⟨rfl, by kernel_rfl⟩
  ·refine @Flds.cons _ _ _ _ _ _ _ _ (fun n : Int => (Lit.int .u8 n).wf = true) wfPen ?_ ?_ ?_
   ·exact @Opn.int _ _ _ Tryz.underlying5
   ·exact ⟨rfl, by kernel_rfl⟩
   ·refine @Flds.one _ _ _ _ _ _ ?_ ?_
    ·exact @opn_Pen
    ·exact ⟨rfl, by kernel_rfl⟩
theorem arr2_K {W : World} {xs : List Int} {cs : List Value} (h : (Kd.arr 2 (Kd.int .i32) (by decide)).K W xs cs) : ∃ a b, xs = [a, b] ∧ cs = [.int .i32 a, .int .i32 b] := by
 obtain ⟨hl, hc, hr⟩ := h
 match xs, hl with
 | [a, b], _ =>
  have h0 := hr 0 a rfl
  have h1 := hr 1 b rfl
  match cs, hc with
  | [u, v], _ =>
   simp [Kd.int, Kd.scalar] at h0 h1
   exact ⟨a, b, rfl, by rw [h0, h1]⟩
end Go.Proofs.YtblcmcdifgclcaaGreat
namespace Go.Proofs.YtblcmcdifgclcaaGreat.Grd
open Go.ChangeShapes Go.WideShapes Go.RowKit Go.Proofs.YtblcmcdifgclcaaGreat Go.Proofs.YtblcmcdifgclcaaGreat.PGridPlays Go.Proofs.YtblcmcdifgclcaaGreatW.PrintWords Go.Proofs.YtblcmcdifgclcaaGreatW.PrintLast Go.Proofs.YtblcmcdifgclcaaGreatW.PrintMore
set_option linter.unusedVariables false
set_option linter.unusedSimpArgs false
theorem C_map {α β : Type} {d : Kd α} {d' : Kd β} (f : α → β) {w : World} {A : Option Addr} {n : Nat} {l : List α} (hs : d.sz = d'.sz) (h : d.C w A n l) (hf : ∀ x ∈ l, ∀ cs, d.K w x cs → d'.K w (f x) cs) : d'.C w A n (l.map f) := by
 obtain ⟨h1, h2, h3⟩ := h
 refine ⟨by rw [List.length_map]; exact h1, h2, fun h0 => ?_⟩
 obtain ⟨ad, e, hc⟩ := h3 h0
 refine ⟨ad, e, fun j p hj => ?_⟩
 rw [List.getElem?_map] at hj
 obtain ⟨x, hx, rfl⟩ := Option.map_eq_some_iff.1 hj
 obtain ⟨c, hl, hk, hcell⟩ := hc j x hx
 exact ⟨c, by rw [hl, hs], hf x (List.mem_of_getElem? hx) c hk, by rw [← hs]; exact hcell⟩
def toS (x : Int × List Int × Int × Int × Int × Int) : S40 := ⟨x.1, ⟨x.2.1.getD 0 0, x.2.1.getD 1 0⟩, x.2.2.1, ⟨x.2.2.2.1, x.2.2.2.2.1, x.2.2.2.2.2⟩⟩
set_option maxRecDepth 100000 in
theorem toS_K {W : World} {x : Int × List Int × Int × Int × Int × Int} {cs : List Value} (hK : kdCell.K W x cs) : k40.K W (toS x) cs := by
 obtain ⟨e0, e1, he, h0, e2, e3, he1, h1, e4, e5, he3, h3, e6, e7, he5, h5, e8, e9, he7, h7, h8⟩ := hK
 obtain ⟨a, b, hx, hab⟩ := arr2_K h1
 simp [Kd.int, Kd.scalar] at h0 h3 h5 h7 h8
 subst h0 h3 h5 h7 h8 hab
 have := k40_mk W (toS x)
 rw [he, he1, he3, he5, he7]
 unfold toS at this ⊢
 rw [hx] at this ⊢
 exact this
def wfS (y : S40) : Prop := (Lit.int .i32 y.f0).wf = true ∧ (Lit.int .i32 y.f1.f0).wf = true ∧ (Lit.int .i32 y.f1.f1).wf = true ∧ (Lit.int .u8 y.f2).wf = true ∧ (Lit.int .u8 y.f3.f0).wf = true ∧ (Lit.int .u8 y.f3.f1).wf = true ∧ (Lit.int .u8 y.f3.f2).wf = true
theorem wf_get {l : List Int} (h : ∀ a ∈ l, (Lit.int .i32 a).wf = true) (i : Nat) : (Lit.int .i32 (l.getD i 0)).wf = true := by
 rw [List.getD_eq_getElem?_getD]
 cases h1 : l[i]? with
 | none => rfl
 | some x => exact h x (List.mem_of_getElem? h1)
theorem wf_toS {x : Int × List Int × Int × Int × Int × Int} (h : wfCell x) : wfS (toS x) := ⟨h.1, wf_get h.2.1 0, wf_get h.2.1 1, h.2.2.1, h.2.2.2.1, h.2.2.2.2.1, h.2.2.2.2.2⟩
abbrev kdCells : Kd (List (Int × List Int × Int × Int × Int × Int)) := Kd.slice 40 kdCell
abbrev TAct : Type := Int × Int × Int × Int × (Int × List Int × Int × Int × Int × Int) × Int × (Int × Int × Int) × List (Int × List Int × Int × Int × Int × Int)
abbrev kdAct : Kd TAct := (Kd.pair (Kd.int .i64) (Kd.pair (Kd.int .i64) (Kd.pair (Kd.int .i64) (Kd.pair (Kd.int .i64) (Kd.pair kdCell (Kd.pair (Kd.int .i32) (Kd.pair kdPen kdCells)))))))
abbrev wfCells (l : List (Int × List Int × Int × Int × Int × Int)) : Prop := ∀ y ∈ l, wfCell y
abbrev wfAct (x : TAct) : Prop := (Lit.int .i64 x.1).wf = true ∧ (Lit.int .i64 x.2.1).wf = true ∧ (Lit.int .i64 x.2.2.1).wf = true ∧ (Lit.int .i64 x.2.2.2.1).wf = true ∧ wfCell x.2.2.2.2.1 ∧ (Lit.int .i32 x.2.2.2.2.2.1).wf = true ∧ wfPen x.2.2.2.2.2.2.1 ∧ wfCells x.2.2.2.2.2.2.2
theorem opn_Cells : Opn Tryz.prog 41 kdCells wfCells :=
 @Opn.slice _ _ _ _ _ wfCell Tryz.underlying41 (by kernel_rfl) (fun {H} => @opn_Cell H)
theorem opn_Act : Opn Tryz.prog 43 kdAct wfAct := by
 refine @Opn.struct _ _ _ _ _ _ Tryz.underlying43 (by kernel_rfl) ?_
 refine @Flds.cons _ _ _ _ _ _ _ _ (fun n : Int => (Lit.int .i64 n).wf = true) (fun x : Int × Int × Int × (Int × List Int × Int × Int × Int × Int) × Int × (Int × Int × Int) × List (Int × List Int × Int × Int × Int × Int) => (Lit.int .i64 x.1).wf = true ∧ (Lit.int .i64 x.2.1).wf = true ∧ (Lit.int .i64 x.2.2.1).wf = true ∧ wfCell x.2.2.2.1 ∧ (Lit.int .i32 x.2.2.2.2.1).wf = true ∧ wfPen x.2.2.2.2.2.1 ∧ wfCells x.2.2.2.2.2.2) ?_ ?_ ?_
 ·exact @Opn.int _ _ _ Tryz.underlying3
 ·exact ⟨rfl, by kernel_rfl⟩
 refine @Flds.cons _ _ _ _ _ _ _ _ (fun n : Int => (Lit.int .i64 n).wf = true) (fun x : Int × Int × (Int × List Int × Int × Int × Int × Int) × Int × (Int × Int × Int) × List (Int × List Int × Int × Int × Int × Int) => (Lit.int .i64 x.1).wf = true ∧ (Lit.int .i64 x.2.1).wf = true ∧ wfCell x.2.2.1 ∧ (Lit.int .i32 x.2.2.2.1).wf = true ∧ wfPen x.2.2.2.2.1 ∧ wfCells x.2.2.2.2.2) ?_ ?_ ?_
 ·exact @Opn.int _ _ _ Tryz.underlying3
 ·exact ⟨rfl, by kernel_rfl⟩
 refine @Flds.cons _ _ _ _ _ _ _ _ (fun n : Int => (Lit.int .i64 n).wf = true) (fun x : Int × (Int × List Int × Int × Int × Int × Int) × Int × (Int × Int × Int) × List (Int × List Int × Int × Int × Int × Int) => (Lit.int .i64 x.1).wf = true ∧ wfCell x.2.1 ∧ (Lit.int .i32 x.2.2.1).wf = true ∧ wfPen x.2.2.2.1 ∧ wfCells x.2.2.2.2) ?_ ?_ ?_
 ·exact @Opn.int _ _ _ Tryz.underlying3
 ·exact ⟨rfl, by kernel_rfl⟩
 refine @Flds.cons _ _ _ _ _ _ _ _ (fun n : Int => (Lit.int .i64 n).wf = true) (fun x : (Int × List Int × Int × Int × Int × Int) × Int × (Int × Int × Int) × List (Int × List Int × Int × Int × Int × Int) => wfCell x.1 ∧ (Lit.int .i32 x.2.1).wf = true ∧ wfPen x.2.2.1 ∧ wfCells x.2.2.2) ?_ ?_ ?_
 ·exact @Opn.int _ _ _ Tryz.underlying3
 ·exact ⟨rfl, by kernel_rfl⟩
 refine @Flds.cons _ _ _ _ _ _ _ _ (fun n : (Int × List Int × Int × Int × Int × Int) => wfCell n) (fun x : Int × (Int × Int × Int) × List (Int × List Int × Int × Int × Int × Int) => (Lit.int .i32 x.1).wf = true ∧ wfPen x.2.1 ∧ wfCells x.2.2) ?_ ?_ ?_
 ·exact @opn_Cell
 ·exact ⟨rfl, by kernel_rfl⟩
 refine @Flds.cons _ _ _ _ _ _ _ _ (fun n : Int => (Lit.int .i32 n).wf = true) (fun x : (Int × Int × Int) × List (Int × List Int × Int × Int × Int × Int) => wfPen x.1 ∧ wfCells x.2) ?_ ?_ ?_
 ·exact @Opn.int _ _ _ Tryz.underlying21
 ·exact ⟨rfl, by kernel_rfl⟩
 refine @Flds.cons _ _ _ _ _ _ _ _ (fun n : (Int × Int × Int) => wfPen n) (fun x : List (Int × List Int × Int × Int × Int × Int) => wfCells x) ?_ ?_ ?_
 ·exact @opn_Pen
 ·exact ⟨rfl, by kernel_rfl⟩
 refine @Flds.one _ _ _ _ _ _ ?_ ?_
 ·exact @opn_Cells
 ·exact ⟨rfl, by kernel_rfl⟩
structure AV where
 k : Int
 r : Int
 c : Int
 t : Int
 x : CS
 m : Int
 p0 : Int
 p1 : Int
 p2 : Int
 l : List CS
abbrev actL (a : AV) (A : Option Addr) (n c : Nat) : List Value := [.int .i64 a.k, .int .i64 a.r, .int .i64 a.c, .int .i64 a.t, .int .i32 a.x.f0, .int .i32 a.x.f1.f0, .int .i32 a.x.f1.f1, .int .u8 a.x.f2, .int .u8 a.x.f3.f0, .int .u8 a.x.f3.f1, .int .u8 a.x.f3.f2, .int .i32 a.m, .int .u8 a.p0, .int .u8 a.p1, .int .u8 a.p2, .slice A n c]
abbrev actV (a : AV) (A : Option Addr) (n c : Nat) : Value := .agg #[.int .i64 a.k, .int .i64 a.r, .int .i64 a.c, .int .i64 a.t, .int .i32 a.x.f0, .int .i32 a.x.f1.f0, .int .i32 a.x.f1.f1, .int .u8 a.x.f2, .int .u8 a.x.f3.f0, .int .u8 a.x.f3.f1, .int .u8 a.x.f3.f2, .int .i32 a.m, .int .u8 a.p0, .int .u8 a.p1, .int .u8 a.p2, .slice A n c]
abbrev actB (a : AV) (A : Option Addr) (n c : Nat) : Obj := .cells #[.int .i64 a.k, .int .i64 a.r, .int .i64 a.c, .int .i64 a.t, .int .i32 a.x.f0, .int .i32 a.x.f1.f0, .int .i32 a.x.f1.f1, .int .u8 a.x.f2, .int .u8 a.x.f3.f0, .int .u8 a.x.f3.f1, .int .u8 a.x.f3.f2, .int .i32 a.m, .int .u8 a.p0, .int .u8 a.p1, .int .u8 a.p2, .slice A n c] 43 (0, 0)
structure AW (a : AV) : Prop where
 r : -9223372036854775808 ≤ a.r ∧ a.r ≤ 9223372036854775807
 c : -9223372036854775808 ≤ a.c ∧ a.c ≤ 9223372036854775807
 t : -9223372036854775808 ≤ a.t ∧ a.t ≤ 9223372036854775807
 k : -9223372036854775808 ≤ a.k ∧ a.k ≤ 9223372036854775807
 x : W32 a.x
 m : -2147483648 ≤ a.m ∧ a.m ≤ 2147483647
 p0 : 0 ≤ a.p0 ∧ a.p0 ≤ 255
 p1 : 0 ≤ a.p1 ∧ a.p1 ≤ 255
 p2 : 0 ≤ a.p2 ∧ a.p2 ≤ 255
 l : ∀ y ∈ a.l, W32 y
def toA (x : TAct) : AV := ⟨x.1, x.2.1, x.2.2.1, x.2.2.2.1, toS x.2.2.2.2.1, x.2.2.2.2.2.1, x.2.2.2.2.2.2.1.1, x.2.2.2.2.2.2.1.2.1, x.2.2.2.2.2.2.1.2.2, x.2.2.2.2.2.2.2.map toS⟩
theorem b32A {x : Int} (h : (Lit.int .i32 x).wf = true) : -2147483648 ≤ x ∧ x ≤ 2147483647 := by have := bounds_i32 h; omega
theorem b64A {x : Int} (h : (Lit.int .i64 x).wf = true) : -9223372036854775808 ≤ x ∧ x ≤ 9223372036854775807 := by have := bounds_i64 h; omega
theorem wfS_W32 {y : CS} (h : wfS y) : W32 y := ⟨b32A h.1, b32A h.2.1, b32A h.2.2.1, bounds_u8 h.2.2.2.1⟩
theorem aw_of {x : TAct} (h : wfAct x) : AW (toA x) := by
 obtain ⟨h0, h1, h2, h3, h4, h5, ⟨h6, h7, h8⟩, h9⟩ := h
 exact ⟨b64A h1, b64A h2, b64A h3, b64A h0, wfS_W32 (wf_toS h4), b32A h5, bounds_u8 h6, bounds_u8 h7, bounds_u8 h8, fun y hy => by
  obtain ⟨z, hz, rfl⟩ := List.mem_map.1 hy
  exact wfS_W32 (wf_toS (h9 z hz))⟩
set_option maxRecDepth 100000 in
theorem act_K {W : World} {x : TAct} {cs : List Value} (hK : kdAct.K W x cs) : ∃ A c, cs = actL (toA x) A (toA x).l.length c ∧ (toA x).l.length ≤ c ∧ Kd.C kCl W A (toA x).l.length (toA x).l := by
 obtain ⟨e0, r0, he, h0, e1, r1, he1, h1, e2, r2, he2, h2, e3, r3, he3, h3, e4, r4, he4, h4, e5, r5, he5, h5, e6, r6, he6, h6, A, c, h7, hc, hC⟩ := hK
 obtain ⟨p0, q0, hp, hp0, p1, q1, hq, hp1, hp2⟩ := h6
 simp [Kd.int, Kd.scalar] at h0 h1 h2 h3 h5 hp0 hp1 hp2
 have h4' := k40_open (toS_K h4)
 have hC' := C_map toS (d' := k40) rfl hC (fun x _ cs h => toS_K h)
 subst h0 h1 h2 h3 h5 hp0 hp1 hp2 h4' h7 hq hp he6 he5 he4 he3 he2 he1 he
 have e : (toA x).l.length = x.2.2.2.2.2.2.2.length := by show (List.map toS _).length = _; rw [List.length_map]
 rw [e]
 exact ⟨A, c, rfl, hc, hC'⟩
theorem acells {W : World} {b : Nat} {a : AV} {A : Option Addr} {n c : Nat} (h : W.heap[b]? = some (actB a A n c)) : W.cell? ⟨b, 0, none⟩ = some (.int .i64 a.k) ∧ W.cell? ⟨b, 1, none⟩ = some (.int .i64 a.r) ∧ W.cell? ⟨b, 2, none⟩ = some (.int .i64 a.c) ∧ W.cell? ⟨b, 3, none⟩ = some (.int .i64 a.t) ∧ W.cell? ⟨b, 4, none⟩ = some (.int .i32 a.x.f0) ∧ W.cell? ⟨b, 5, none⟩ = some (.int .i32 a.x.f1.f0) ∧ W.cell? ⟨b, 6, none⟩ = some (.int .i32 a.x.f1.f1) ∧ W.cell? ⟨b, 7, none⟩ = some (.int .u8 a.x.f2) ∧ W.cell? ⟨b, 8, none⟩ = some (.int .u8 a.x.f3.f0) ∧ W.cell? ⟨b, 9, none⟩ = some (.int .u8 a.x.f3.f1) ∧ W.cell? ⟨b, 10, none⟩ = some (.int .u8 a.x.f3.f2) ∧ W.cell? ⟨b, 11, none⟩ = some (.int .i32 a.m) ∧ W.cell? ⟨b, 12, none⟩ = some (.int .u8 a.p0) ∧ W.cell? ⟨b, 13, none⟩ = some (.int .u8 a.p1) ∧ W.cell? ⟨b, 14, none⟩ = some (.int .u8 a.p2) ∧ W.cell? ⟨b, 15, none⟩ = some (.slice A n c) :=
 ⟨(blk_cell h 0).trans rfl, (blk_cell h 1).trans rfl, (blk_cell h 2).trans rfl, (blk_cell h 3).trans rfl, (blk_cell h 4).trans rfl, (blk_cell h 5).trans rfl, (blk_cell h 6).trans rfl, (blk_cell h 7).trans rfl, (blk_cell h 8).trans rfl, (blk_cell h 9).trans rfl, (blk_cell h 10).trans rfl, (blk_cell h 11).trans rfl, (blk_cell h 12).trans rfl, (blk_cell h 13).trans rfl, (blk_cell h 14).trans rfl, (blk_cell h 15).trans rfl⟩
end Go.Proofs.YtblcmcdifgclcaaGreat.Grd
namespace Go.Proofs.YtblcmcdifgclcaaGreat.Grd
open Go.RowKit Go.Proofs.YtblcmcdifgclcaaGreat Go.Proofs.YtblcmcdifgclcaaGreat.PGridPlays Go.Proofs.YtblcmcdifgclcaaGreatW.PrintWords Go.Proofs.YtblcmcdifgclcaaGreatW.PrintLast Go.Proofs.YtblcmcdifgclcaaGreatW.PrintMore
set_option linter.unusedVariables false
set_option linter.unusedSimpArgs false
set_option maxRecDepth 100000
set_option maxHeartbeats 4000000
attribute [local go_sem] isSome_setCell max2_int min2_int max_two min_two
theorem results_tct {P : Program} {fn : Func} {p q u : Tmp} {ty : TypeId} (h : fn.results = #[.tmp q, .cell p ty, .tmp u]) (tmps : Array Value) (w : World) (g : Nat) (t : TypeId) (cs : Array Value) (fr : Nat × Nat) (d : TypeDesc)
 (hp : tmps.getD p undef = .pointer (some ⟨g, 0, none⟩)) (hg : w.heap[g]? = some (.cells cs t fr))
 (hu : P.underlying ty = some d) (hd : (match d with | .struct _ | .array _ _ => true | _ => false) = true) (hi : (P.info? ty).map (·.size) = some cs.size) :
 (results fn tmps).run P w = .ok (.tuple #[tmps.getD q undef, .agg cs, tmps.getD u undef]) w := by
 have hp' : tmps[p]?.getD undef = .pointer (some ⟨g, 0, none⟩) := by simpa using hp
 simp [results, h, hp', asAddr, run_loadVar_row w g t ty cs fr d hg hu hd hi]
def DPost (O okr : Nat → Prop) (w : World) (G' : GV) (e : Ending) (w' : World) : Prop := ∃ g' v' O', e = .returned (.tuple #[.pointer (some ⟨g', 0, none⟩), gV v' G', .bool true]) ∧ GS O' w' g' G' ∧ (∀ k, O' k → O k ∨ w.heap.size ≤ k) ∧ Wr O w w' ∧ RD kRL w' (fun k => (okr k ∨ w.heap.size ≤ k) ∧ ¬ O' k) v' (toL G'.L)
section
variable {O O6 okr : Nat → Prop} {w W W1 W6 W7 W8 : World} {g g7 : Nat} {G G1 : GV} {v : Value} {L : List (List RC)}
theorem RD.did {α : Type} {d : Kd α} {v : Value} {l : List α} {ok : Nat → Prop} (h : RD d W ok v l) (hd : Did O W W1 g G1) (hk : ∀ k, ok k → ¬ O k) : RD d W1 ok v l := by
 obtain ⟨O', h1, h2, h3⟩ := hd
 exact h.wr h3 hk
theorem RD.fin2 (hd : RD kRL W7 (fun k => (okr k ∧ k < w.heap.size) ∨ W6.heap.size ≤ k) v L) (hg : W7.grownBy W8 (some g7)) (h7 : w.heap.size ≤ g7) (h6 : g7 < W6.heap.size) (hw : w.heap.size ≤ W6.heap.size) (hO : ∀ k, O6 k → k < W6.heap.size) (hs : ∀ k, O6 k → O k ∨ w.heap.size ≤ k) (hn : ∀ k, okr k → ¬ O k) : RD kRL W8 (fun k => (okr k ∨ w.heap.size ≤ k) ∧ ¬ O6 k) v L := by
 refine (hd.wrg hg (fun k hk => ?_)).mono (fun k hk => ⟨?_, fun h6k => ?_⟩)
 ·rcases hk with hk | hk <;> omega
 ·rcases hk with hk | hk
  ·exact .inl hk.1
  ·exact .inr (by omega)
 ·rcases hk with hk | hk
  ·exact (hs k h6k).elim (hn k hk.1) (fun e => by omega)
  ·have := hO k h6k; omega
theorem RD.fin3 {B : Nat} (hd : RD kRL W7 (fun k => ((okr k ∧ k < w.heap.size) ∨ W6.heap.size ≤ k) ∧ k < B) v L) (hg : W7.grownBy W8 (some g7)) (h7 : w.heap.size ≤ g7) (h6 : g7 < W6.heap.size) (hw : w.heap.size ≤ W6.heap.size) (hob : ∀ k, O k → k < w.heap.size) (hs : ∀ k, O6 k → O k ∨ B ≤ k) (hn : ∀ k, okr k → ¬ O k) : RD kRL W8 (fun k => (okr k ∨ w.heap.size ≤ k) ∧ ¬ O6 k) v L := by
 refine (hd.wrg hg (fun k hk => ?_)).mono (fun k hk => ⟨?_, fun h6k => ?_⟩)
 ·rcases hk.1 with hk | hk <;> omega
 ·rcases hk.1 with hk | hk
  ·exact .inl hk.1
  ·exact .inr (by omega)
 ·rcases hs k h6k with h | h
  ·rcases hk.1 with hk | hk
   ·exact hn k hk.1 h
   ·have := hob k h; omega
  ·have := hk.2; omega
theorem QO.did' {O0 : Nat → Prop} {W2 : World} {gs : List (Nat × Obj)} {B : Nat} (h : QO O0 O w W g G gs) (hb : Below W.heap.size W W1) (hB : B ≤ W.heap.size) (hd : Did O W1 W2 g G1) :
 ∃ O', (∀ k, O' k → O k ∨ B ≤ k) ∧ QO O0 O' w W2 g G1 gs ∧ ∀ (ok : Nat → Prop) (v : Value) (l : List (List RC)), RD kRL W ok v l → (∀ k, ok k → ¬ O k) → RD kRL W2 ok v l := by
 obtain ⟨O', h1, h2⟩ := (h.below hb).did hd
 exact ⟨O', fun k hk => (h1 k hk).imp id (fun e => Nat.le_trans hB (Nat.le_trans hb.size e)), h2, fun ok v l hr hk => (hr.below hb).did hd hk⟩
theorem QO.swap {O0 : Nat → Prop} {g1 : Nat} {gs : List (Nat × Obj)} (h : QO O0 O w W g G gs) (hF : Fresh W W1 g1 G1) : QO O0 (fun k => W.heap.size ≤ k ∧ k < W1.heap.size) w W1 g1 G1 gs :=
 ⟨hF.1, h.wr.then_ hF.2, fun k hk => .inr (Nat.le_trans h.wr.size hk.1), fun p hp => ⟨blk_below (h.bx p hp).1 hF.2, (h.bx p hp).2.1, fun hk => by have := blk_lt (h.bx p hp).1; omega⟩, h.nd⟩
theorem gSame_self (G : GV) : gSame G G = true := by unfold gSame; simp
theorem Scroll_did (h : GS O w g G) (n p0 p1 p2 : Int) (hnb : -9223372036854775808 ≤ n ∧ n ≤ 9223372036854775807) : Calls Tryz.prog 24 #[.pointer (some ⟨g, 0, none⟩), .int .i64 n, penV p0 p1 p2] w fun e w' => e = .returned (.tuple #[]) ∧ Did O w w' g (gScroll G n p0 p1 p2) := by
 by_cases hp : penR p0 p1 p2 = true
 ·exact Scroll_any h n p0 p1 p2 hnb hp
 ·refine (Scroll_no h n p0 p1 p2 (Bool.eq_false_iff.2 hp)).mono ?_
  rintro e w' ⟨rfl, hb⟩
  refine ⟨rfl, ?_⟩
  rw [show gScroll G n p0 p1 p2 = G by unfold gScroll; rw [if_neg hp]]
  exact (GS.same h).below hb
end
end Go.Proofs.YtblcmcdifgclcaaGreat.Grd
