/- LineMakes: what its proof leads to. No condition. -/
import Derived.Test.YtblcmcdifgclcaaRows
import Derived.Test.YtblcmcdifgclcaaOpnCellqLineMakes
import Derived.Test.YtblcmcdifgclcaaPureLineMakesqLineMakes
import Derived.ProofKit
import Derived.OpenShut
namespace Go.Proofs.Ytblcmcdifgclcaa
open Go.ChangeShapes Go.WideShapes Go.ChangeAt Go.RowKit Go.Proofs.YtblcmcdifgclcaaW.PrintWords Go.Proofs.YtblcmcdifgclcaaW.PrintLast Go.Proofs.YtblcmcdifgclcaaW.PrintMore Go.Proofs.Ytblcmcdifgclcaa.PLineMakes
set_option linter.unusedVariables false
set_option linter.unusedSimpArgs false
theorem C_map {α β : Type} {d : Kd α} {d' : Kd β} (f : α → β) {w : World} {A : Option Addr} {n : Nat} {l : List α} (hs : d.sz = d'.sz) (h : d.C w A n l) (hf : ∀ x ∈ l, ∀ cs, d.K w x cs → d'.K w (f x) cs) : d'.C w A n (l.map f) := by
  obtain ⟨h1, h2, h3⟩ := h
  refine ⟨by rw [List.length_map]; exact h1, h2, fun h0 => ?_⟩
  obtain ⟨ad, e, hc⟩ := h3 h0
  refine ⟨ad, e, fun j p hj => ?_⟩
  rw [List.getElem?_map] at hj
  obtain ⟨x, hx, rfl⟩ := Option.map_eq_some_iff.1 hj
  obtain ⟨c, hl, hk, hcell⟩ := hc j x hx
  exact ⟨c, by rw [hl, hs], hf x (List.mem_of_getElem? hx) c hk, by rw [← hs]; exact hcell⟩
/-- A cell, as the printed texts have it. -/
def toS (x : Int × List Int × Int × Int × Int × Int) : S26 := ⟨x.1, ⟨x.2.1.getD 0 0, x.2.1.getD 1 0⟩, x.2.2.1, ⟨x.2.2.2.1, x.2.2.2.2.1, x.2.2.2.2.2⟩⟩
set_option maxRecDepth 100000 in
theorem toS_K {W : World} {x : Int × List Int × Int × Int × Int × Int} {cs : List Value} (hK : kdCell.K W x cs) : k26.K W (toS x) cs := by
  obtain ⟨e0, e1, he, h0, e2, e3, he1, h1, e4, e5, he3, h3, e6, e7, he5, h5, e8, e9, he7, h7, h8⟩ := hK
  obtain ⟨a, b, hx, hab⟩ := arr2_K h1
  simp [Kd.int, Kd.scalar] at h0 h3 h5 h7 h8
  subst h0 h3 h5 h7 h8 hab
  have := k26_mk W (toS x)
  rw [he, he1, he3, he5, he7]
  unfold toS at this ⊢
  rw [hx] at this ⊢
  exact this
def wfS (y : S26) : Prop := (Lit.int .i32 y.f0).wf = true ∧ (Lit.int .i32 y.f1.f0).wf = true ∧ (Lit.int .i32 y.f1.f1).wf = true ∧ (Lit.int .u8 y.f2).wf = true ∧ (Lit.int .u8 y.f3.f0).wf = true ∧ (Lit.int .u8 y.f3.f1).wf = true ∧ (Lit.int .u8 y.f3.f2).wf = true
theorem wf_get {l : List Int} (h : ∀ a ∈ l, (Lit.int .i32 a).wf = true) (i : Nat) : (Lit.int .i32 (l.getD i 0)).wf = true := by
  rw [List.getD_eq_getElem?_getD]
  cases h1 : l[i]? with
  | none => rfl
  | some x => exact h x (List.mem_of_getElem? h1)
theorem wf_toS {x : Int × List Int × Int × Int × Int × Int} (h : wfCell x) : wfS (toS x) := ⟨h.1, wf_get h.2.1 0, wf_get h.2.1 1, h.2.2.1, h.2.2.2.1, h.2.2.2.2.1, h.2.2.2.2.2⟩
theorem cells_arg {W : World} {A : Option Addr} {n : Nat} {l : List (Int × List Int × Int × Int × Int × Int)} (hC : kdCell.C W A n l) (hq : ∀ x ∈ l, wfCell x) : ∃ l' : List S26, l'.length = l.length ∧ k26.C W A n l' ∧ ∀ y ∈ l', wfS y :=
  ⟨l.map toS, by simp, C_map toS rfl hC (fun x _ cs h => toS_K h), fun y hy => by obtain ⟨x, hx, rfl⟩ := List.mem_map.1 hy; exact wf_toS (hq x hx)⟩
set_option maxRecDepth 100000 in
theorem cellS_arg {W : World} {base : Nat} {v : Value} {x : Int × List Int × Int × Int × Int × Int} (hv : Value.okWide Try.prog W .any base 26 v) (hK : kdCell.K W x v.cells.toList) (hq : wfCell x) :
    ∃ y : S26, wfS y ∧ v = .agg #[.int .i32 y.f0, .int .i32 y.f1.f0, .int .i32 y.f1.f1, .int .u8 y.f2, .int .u8 y.f3.f0, .int .u8 y.f3.f1, .int .u8 y.f3.f2] := by
  obtain ⟨a, b, hx, rfl⟩ := cell_arg hv hK
  refine ⟨toS x, wf_toS hq, ?_⟩
  unfold toS
  rw [hx]
  rfl
set_option maxRecDepth 100000 in
theorem walk_LineMakes (A : Option Addr) (c0 : Nat) (l : List (Int × List Int × Int × Int × Int × Int)) (v1 : Value) (x1 : Int × List Int × Int × Int × Int × Int) (i n : Int) (v4 : Value) (x4 : Int × Int × Int) (r : Int) (w : World) {base1 base4 : Nat}
    (hC : Kd.C kdCell w A l.length l) (hc : l.length ≤ c0) (hq : ∀ x ∈ l, wfCell x)
    (hv1 : Value.okWide Try.prog w .any base1 26 v1) (hK1 : kdCell.K w x1 v1.cells.toList) (hq1 : wfCell x1)
    (hi : (Lit.int .i64 i).wf = true) (hn : (Lit.int .i64 n).wf = true) (hv4 : Value.okWide Try.prog w .any base4 24 v4) (hK4 : kdPen.K w x4 v4.cells.toList) (hq4 : wfPen x4) (hr : (Lit.int .i32 r).wf = true) :
    Calls Try.prog 7 #[.slice A l.length c0, v1, .int .i64 i, .int .i64 n, v4, .int .i32 r] w fun e w' => e = .returned (.bool true) ∧ Below w.heap.size w w' := by
  obtain ⟨l', hl, hC', hw⟩ := cells_arg hC hq
  obtain ⟨c, hwc, rfl⟩ := cellS_arg hv1 hK1 hq1
  rw [pen_arg hv4 hK4]
  rw [← hl] at hC' hc ⊢
  have hbi := bounds_i64 hi
  have w32 : ∀ y : S26, wfS y → Pure.W32 y := fun y hy => ⟨by have := bounds_i32 hy.1; omega, by have := bounds_i32 hy.2.1; omega, by have := bounds_i32 hy.2.2.1; omega, bounds_u8 hy.2.2.2.1⟩
  exact prolepsislaw06_LineMakes.calls 3000 A c0 l' _ _ _ _ _ _ _ _ _ _ _ _ _ true w hC' hc (Pure.LineMakes_true l' c i n _ _ _ r (w32 c hwc) (by omega) (by have := bounds_i32 hr; omega) (fun y hy => w32 y (hw y hy))) rfl
theorem own_LineMakes : ownKnob Try.prog.godebug = none := by kernel_rfl
theorem laidOut_LineMakes : laidOutB Try.prog = true := by kernel_rfl
set_option maxRecDepth 100000 in
theorem lifted_LineMakes (os : Os) (started : os.Started) (H : Type) (enc : TypeId × Value → H) :
    ReturnsInHanded {} Try.checked os 7 .any (Rows.lineMakesSpec.pre6 enc Try.prog Try.f7 Rows.lineMakesRow.domain false) (Rows.lineMakesSpec.post enc Try.prog Try.f7 false true false false) := by
  refine returnsInHanded_of_change (C := Try.checked) own_LineMakes started (by kernel_rfl) Try.func7
    (ChangeSpec.witness6 (enc := enc) (C := Try.checked) false ⟨#[], #[.slice none 0 0, .agg #[.int .i32 0, .int .i32 0, .int .i32 0, .int .u8 0, .int .u8 0, .int .u8 0, .int .u8 0], .int .i64 0, .int .i64 0, .agg #[.int .u8 0, .int .u8 0, .int .u8 0], .int .i32 0], []⟩ 8 (by kernel_rfl) (by kernel_rfl) (by kernel_rfl) (by kernel_rfl)) ?_
  intro W base args ds gs before hval0 hW hcnd _
  have hval : ∀ (j : Nat) t v, Try.f7.params[j]? = some t → args[j]? = some v → Value.okWide Try.prog W .any base t v := hval0
  have hW' := hW
  obtain ⟨p, q, hA0, hV, rfl, hfz, hnd⟩ := hW
  have hA : DataW.TrodAll enc Try.prog W 0 (fun _ => true) true Try.f7.params.toList args.toList ds p := hA0
  rw [Try.params7] at hA hval
  obtain ⟨v0, vs0, d0, ds0, p0, q0, hargs, rfl, rfl, h0, r0⟩ := trodAll_cons hA
  obtain ⟨v1, vs1, d1, ds1, p1, q1, rfl, rfl, rfl, h1, r1⟩ := trodAll_cons r0
  obtain ⟨v2, vs2, d2, ds2, p2, q2, rfl, rfl, rfl, h2, r2⟩ := trodAll_cons r1
  obtain ⟨v3, vs3, d3, ds3, p3, q3, rfl, rfl, rfl, h3, r3⟩ := trodAll_cons r2
  obtain ⟨v4, vs4, d4, ds4, p4, q4, rfl, rfl, rfl, h4, r4⟩ := trodAll_cons r3
  obtain ⟨v5, vs5, d5, ds5, p5, q5, rfl, rfl, rfl, h5, r5⟩ := trodAll_cons r4
  obtain ⟨rfl, rfl, rfl⟩ := trodAll_nil r5
  obtain rfl : args = #[v0, v1, v2, v3, v4, v5] := by cases args; simp_all
  obtain ⟨rfl, rfl⟩ := trodVars_none hV
  obtain ⟨a0, len0, cap0, rfl⟩ := okWide_slice Try.underlying58 (hval 0 58 v0 rfl rfl)
  have k0 := h0
  have lt0 : ∀ x ∈ p0, x.block < W.heap.size := by obtain ⟨m, hm⟩ := k0; exact DataW.trod_lt m _ _ _ hm
  obtain ⟨l0, rfl, hC0, hc0, hq0⟩ := open_sl (Opn.slice (e := 26) (d := kdCell) (Q := wfCell) Try.underlying58 (by kernel_rfl) (fun {H} => @opn_Cell H)) h0
  have k1 := h1
  have lt1 : ∀ x ∈ p1, x.block < W.heap.size := by obtain ⟨m, hm⟩ := k1; exact DataW.trod_lt m _ _ _ hm
  obtain ⟨x1, hK1, hq1⟩ := open_any (fun {H} => @opn_Cell H) h1
  obtain ⟨a2, rfl, rfl, rfl, w2⟩ := open_int Try.underlying3 (hval 2 3 v2 rfl rfl) h2
  obtain ⟨a3, rfl, rfl, rfl, w3⟩ := open_int Try.underlying3 (hval 3 3 v3 rfl rfl) h3
  have k4 := h4
  have lt4 : ∀ x ∈ p4, x.block < W.heap.size := by obtain ⟨m, hm⟩ := k4; exact DataW.trod_lt m _ _ _ hm
  obtain ⟨x4, hK4, hq4⟩ := open_any (fun {H} => @opn_Pen H) h4
  obtain ⟨a5, rfl, rfl, rfl, w5⟩ := open_int Try.underlying21 (hval 5 21 v5 rfl rfl) h5
  refine (walk_LineMakes a0 cap0 l0 v1 x1 a2 a3 v4 x4 a5 W hC0 hc0 hq0 (hval 1 26 v1 rfl rfl) hK1 hq1 w2 w3 (hval 4 24 v4 rfl rfl) hK4 hq4 w5).mono fun e W' ⟨he, bel⟩ => ?_
  subst he
  exact ⟨_, rfl, _, _, _, [], _, [], hW', trodAll_mk1 (shut_bool Try.underlying4 _), (trodAll_cons_mk (Below.trod laidOut_LineMakes (by kernel_rfl) (of_decide_eq_true (by kernel_rfl)) k0 bel lt0) (trodAll_cons_mk (Below.trod laidOut_LineMakes (by kernel_rfl) (of_decide_eq_true (by kernel_rfl)) k1 bel lt1) (trodAll_cons_mk (shut_int Try.underlying3 w2) (trodAll_cons_mk (shut_int Try.underlying3 w3) (trodAll_cons_mk (Below.trod laidOut_LineMakes (by kernel_rfl) (of_decide_eq_true (by kernel_rfl)) k4 bel lt4) (trodAll_cons_mk (shut_int Try.underlying21 w5) trodAll_mk0)))))), rfl, bel.frame _, fun h => by cases h⟩
/-- The row. -/
theorem LineMakes_holds : Rows.LineMakesSaid :=
  OpenClaim.holds_of_wide 7 Try.f7 rfl rfl rfl rfl rfl rfl rfl ⟨rfl, rfl, rfl, rfl, rfl⟩ rfl rfl rfl rfl rfl (by kernel_rfl) Try.func7 (by kernel_rfl)
    (of_decide_eq_true (by kernel_rfl)) (by unfold Func.isWrapper; first | (rw [if_pos (by decide +kernel)]; kernel_rfl) | (rw [if_neg (by decide +kernel)]; exact ⟨rfl, rfl⟩))
    (fun os started H enc _ => lifted_LineMakes os started H enc)
#print axioms LineMakes_holds
end Go.Proofs.Ytblcmcdifgclcaa
