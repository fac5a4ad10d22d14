/- GridNil: what its proof leads to. No condition. -/
import Derived.Test.YtblcmcdifgclcaaArrEqqGridNil
import Derived.Test.YtblcmcdifgclcaaCelAqGridNil
import Derived.Test.YtblcmcdifgclcaaCelCqGridNil
import Derived.Test.YtblcmcdifgclcaaCopyNqGridNil
import Derived.Test.YtblcmcdifgclcaaCutsqGridNil
import Derived.Test.YtblcmcdifgclcaaLitqGridNil
import Derived.Test.YtblcmcdifgclcaaWMoreqGridNil
import Derived.Lib.SlBytesConst
import Derived.BigFrame
import Derived.Test.YtblcmcdifgclcaaWidEqGridNil
import Derived.Test.YtblcmcdifgclcaaProg
import Derived.Below
import Derived.Deep.Draws
import Derived.Deep.AppendLies
import Derived.Maps.AppendAt
import Derived.OwnWalk
import Derived.Laws.BytesArg
import Derived.Laws.MakeOwn
import Derived.Laws.OwnMore
import Derived.Deep.OwnRows
import Derived.Tactics
import Derived.Lib.ConvBytes
import Derived.Laws.Slices
import Derived.WalkKit
import Derived.KernelRfl
import Derived.RowKit3
import Derived.Deep.LoopGhost
import Derived.Deep.QuietTactic
import Derived.BigQuiet
import Derived.WideLaws
import Derived.Deep.DeepCutAuto
import Derived.Deep.CutBlock
import Derived.Deep.RegionHeld3
import Derived.Laws.Rows
import Derived.Lib.AppendStr
import Derived.ArgAppend
import Derived.Laws.IdiomCopy
import Derived.OrdersHeld
import Derived.Laws.BitsLemmas
import Derived.RowKit
import Derived.Test.YtblcmcdifgclcaaWWordsqGridNil
import Derived.Test.YtblcmcdifgclcaaWLastqGridNil
import Derived.Test.YtblcmcdifgclcaaWTabqGridNil
import Derived.Test.YtblcmcdifgclcaaWApartqGridNil
import Derived.Test.YtblcmcdifgclcaaWArrqGridNil
import Derived.Test.YtblcmcdifgclcaaWShareqGridNil
import Derived.Test.YtblcmcdifgclcaaWNqGridNil
import Derived.Test.YtblcmcdifgclcaaWEqStructqGridNil
import Derived.Test.YtblcmcdifgclcaaWRepsOneqGridNil
import Derived.Test.YtblcmcdifgclcaaWGuardqGridNil
import Derived.Test.YtblcmcdifgclcaaWNEvqGridNil
import Derived.Test.YtblcmcdifgclcaaShortqGridNil
namespace Go.Proofs.Ytblcmcdifgclcaa.PGridSame
open Go.RowKit Go.Proofs.YtblcmcdifgclcaaW.PrintWords Go.Proofs.YtblcmcdifgclcaaW.PrintLast Go.Proofs.YtblcmcdifgclcaaW.PrintMore
attribute [local go_sem] max2_int min2_int max_two min_two
set_option linter.unusedVariables false
set_option linter.unusedSimpArgs false

theorem info26 : (Try.prog.info? 26).map (fun i => (i.zero, i.size, i.bytes)) = some (some (.agg #[(.int .i32 0), (.int .i32 0), (.int .i32 0), (.int .u8 0), (.int .u8 0), (.int .u8 0), (.int .u8 0)]), 7, 16) := by kernel_rfl
-- the values' own types
structure S22 where
  f0 : Int
  f1 : Int
def z22 : S22 := ⟨(0 : Int), (0 : Int)⟩
def k22 : Kd S22 := Kd.iso (Kd.pair (Kd.int .i32) (Kd.int .i32)) (fun x : S22 => (x.f0, x.f1))
theorem k22_open {w : World} {x : S22} {cs : List Value} (h : k22.K w x cs) : cs = [.int .i32 x.f0, .int .i32 x.f1] := by
  obtain ⟨_, _, rfl, rfl, rfl⟩ := h
  exact rfl
theorem k22_openM {w : World} {base : Nat} {ok : Nat → Prop} {x : S22} {cs : List Value} (h : k22.M w base ok x cs) : cs = [.int .i32 x.f0, .int .i32 x.f1] := by
  obtain ⟨_, _, rfl, rfl, rfl⟩ := h
  exact rfl
theorem k22_mk (w : World) (x : S22)  : k22.K w x [.int .i32 x.f0, .int .i32 x.f1] := ⟨[.int .i32 x.f0], [.int .i32 x.f1], rfl, rfl, rfl⟩
theorem k22_mkM (w : World) (base : Nat) (ok : Nat → Prop) (x : S22)  : k22.M w base ok x [.int .i32 x.f0, .int .i32 x.f1] := ⟨[.int .i32 x.f0], [.int .i32 x.f1], rfl, rfl, rfl⟩
structure S24 where
  f0 : Int
  f1 : Int
  f2 : Int
def z24 : S24 := ⟨(0 : Int), (0 : Int), (0 : Int)⟩
def k24 : Kd S24 := Kd.iso (Kd.pair (Kd.int .u8) (Kd.pair (Kd.int .u8) (Kd.int .u8))) (fun x : S24 => (x.f0, x.f1, x.f2))
theorem k24_open {w : World} {x : S24} {cs : List Value} (h : k24.K w x cs) : cs = [.int .u8 x.f0, .int .u8 x.f1, .int .u8 x.f2] := by
  obtain ⟨_, _, rfl, rfl, ⟨_, _, rfl, rfl, rfl⟩⟩ := h
  exact rfl
theorem k24_openM {w : World} {base : Nat} {ok : Nat → Prop} {x : S24} {cs : List Value} (h : k24.M w base ok x cs) : cs = [.int .u8 x.f0, .int .u8 x.f1, .int .u8 x.f2] := by
  obtain ⟨_, _, rfl, rfl, ⟨_, _, rfl, rfl, rfl⟩⟩ := h
  exact rfl
theorem k24_mk (w : World) (x : S24)  : k24.K w x [.int .u8 x.f0, .int .u8 x.f1, .int .u8 x.f2] := ⟨[.int .u8 x.f0], [.int .u8 x.f1, .int .u8 x.f2], rfl, rfl, ⟨[.int .u8 x.f1], [.int .u8 x.f2], rfl, rfl, rfl⟩⟩
theorem k24_mkM (w : World) (base : Nat) (ok : Nat → Prop) (x : S24)  : k24.M w base ok x [.int .u8 x.f0, .int .u8 x.f1, .int .u8 x.f2] := ⟨[.int .u8 x.f0], [.int .u8 x.f1, .int .u8 x.f2], rfl, rfl, ⟨[.int .u8 x.f1], [.int .u8 x.f2], rfl, rfl, rfl⟩⟩
structure S26 where
  f0 : Int
  f1 : S22
  f2 : Int
  f3 : S24
def z26 : S26 := ⟨(0 : Int), z22, (0 : Int), z24⟩
def k26 : Kd S26 := Kd.iso (Kd.pair (Kd.int .i32) (Kd.pair k22 (Kd.pair (Kd.int .u8) k24))) (fun x : S26 => (x.f0, x.f1, x.f2, x.f3))
theorem k26_open {w : World} {x : S26} {cs : List Value} (h : k26.K w x cs) : cs = [.int .i32 x.f0, .int .i32 x.f1.f0, .int .i32 x.f1.f1, .int .u8 x.f2, .int .u8 x.f3.f0, .int .u8 x.f3.f1, .int .u8 x.f3.f2] := by
  obtain ⟨_, _, rfl, rfl, ⟨_, _, rfl, s1, ⟨_, _, rfl, rfl, s4⟩⟩⟩ := h
  obtain rfl := k22_open s1
  obtain rfl := k24_open s4
  exact rfl
theorem k26_openM {w : World} {base : Nat} {ok : Nat → Prop} {x : S26} {cs : List Value} (h : k26.M w base ok x cs) : cs = [.int .i32 x.f0, .int .i32 x.f1.f0, .int .i32 x.f1.f1, .int .u8 x.f2, .int .u8 x.f3.f0, .int .u8 x.f3.f1, .int .u8 x.f3.f2] := by
  obtain ⟨_, _, rfl, rfl, ⟨_, _, rfl, s1, ⟨_, _, rfl, rfl, s4⟩⟩⟩ := h
  obtain rfl := k22_openM s1
  obtain rfl := k24_openM s4
  exact rfl
theorem k26_mk (w : World) (x : S26)  : k26.K w x [.int .i32 x.f0, .int .i32 x.f1.f0, .int .i32 x.f1.f1, .int .u8 x.f2, .int .u8 x.f3.f0, .int .u8 x.f3.f1, .int .u8 x.f3.f2] := ⟨[.int .i32 x.f0], [.int .i32 x.f1.f0, .int .i32 x.f1.f1, .int .u8 x.f2, .int .u8 x.f3.f0, .int .u8 x.f3.f1, .int .u8 x.f3.f2], rfl, rfl, ⟨[.int .i32 x.f1.f0, .int .i32 x.f1.f1], [.int .u8 x.f2, .int .u8 x.f3.f0, .int .u8 x.f3.f1, .int .u8 x.f3.f2], rfl, (k22_mk w x.f1 ), ⟨[.int .u8 x.f2], [.int .u8 x.f3.f0, .int .u8 x.f3.f1, .int .u8 x.f3.f2], rfl, rfl, (k24_mk w x.f3 )⟩⟩⟩
theorem k26_mkM (w : World) (base : Nat) (ok : Nat → Prop) (x : S26)  : k26.M w base ok x [.int .i32 x.f0, .int .i32 x.f1.f0, .int .i32 x.f1.f1, .int .u8 x.f2, .int .u8 x.f3.f0, .int .u8 x.f3.f1, .int .u8 x.f3.f2] := ⟨[.int .i32 x.f0], [.int .i32 x.f1.f0, .int .i32 x.f1.f1, .int .u8 x.f2, .int .u8 x.f3.f0, .int .u8 x.f3.f1, .int .u8 x.f3.f2], rfl, rfl, ⟨[.int .i32 x.f1.f0, .int .i32 x.f1.f1], [.int .u8 x.f2, .int .u8 x.f3.f0, .int .u8 x.f3.f1, .int .u8 x.f3.f2], rfl, (k22_mkM w base ok x.f1 ), ⟨[.int .u8 x.f2], [.int .u8 x.f3.f0, .int .u8 x.f3.f1, .int .u8 x.f3.f2], rfl, rfl, (k24_mkM w base ok x.f3 )⟩⟩⟩
def rd_T26 (xs : List S26) (i : Int) : S26 := xs.getD i.toNat z26
theorem at_T26 {w : World} {A : Option Addr} {n : Nat} {xs : List S26} (h : Kd.C k26 w A n xs) (i : Int) (h0 : 0 ≤ i) (h1 : i < n) : ∃ ad , A = some ad ∧ w.cell? (ad.add (i.toNat * 7)) = some (.int .i32 (rd_T26 xs i).f0) ∧ w.cell? ⟨(ad.add (i.toNat * 7)).block, (ad.add (i.toNat * 7)).off + 1, none⟩ = some (.int .i32 (rd_T26 xs i).f1.f0) ∧ w.cell? ⟨(ad.add (i.toNat * 7)).block, (ad.add (i.toNat * 7)).off + 2, none⟩ = some (.int .i32 (rd_T26 xs i).f1.f1) ∧ w.cell? ⟨(ad.add (i.toNat * 7)).block, (ad.add (i.toNat * 7)).off + 3, none⟩ = some (.int .u8 (rd_T26 xs i).f2) ∧ w.cell? ⟨(ad.add (i.toNat * 7)).block, (ad.add (i.toNat * 7)).off + 4, none⟩ = some (.int .u8 (rd_T26 xs i).f3.f0) ∧ w.cell? ⟨(ad.add (i.toNat * 7)).block, (ad.add (i.toNat * 7)).off + 5, none⟩ = some (.int .u8 (rd_T26 xs i).f3.f1) ∧ w.cell? ⟨(ad.add (i.toNat * 7)).block, (ad.add (i.toNat * 7)).off + 6, none⟩ = some (.int .u8 (rd_T26 xs i).f3.f2) := by
  obtain ⟨ad, c, e, _, hK, hc0⟩ := Kd.C_get h z26 i h0 h1
  have hc : ∀ j u, c[j]? = some u → w.cell? (ad.add (i.toNat * 7 + j)) = some u := hc0
  obtain rfl := k26_open hK
  exact ⟨ad, e, hc 0 _ rfl, by rw [← add_field _ _ 1 (by omega)]; exact hc 1 _ rfl, by rw [← add_field _ _ 2 (by omega)]; exact hc 2 _ rfl, by rw [← add_field _ _ 3 (by omega)]; exact hc 3 _ rfl, by rw [← add_field _ _ 4 (by omega)]; exact hc 4 _ rfl, by rw [← add_field _ _ 5 (by omega)]; exact hc 5 _ rfl, by rw [← add_field _ _ 6 (by omega)]; exact hc 6 _ rfl⟩

structure S29 where
  f0 : Int
  f1 : Int
def k29 : Kd S29 := Kd.iso (Kd.pair (Kd.int .i64) (Kd.int .i64)) (fun x : S29 => (x.f0, x.f1))
structure S30 where
  f0 : Int
  f1 : Int
  f2 : Int
def k30 : Kd S30 := Kd.iso (Kd.pair (Kd.int .u8) (Kd.pair (Kd.int .u8) (Kd.int .u8))) (fun x : S30 => (x.f0, x.f1, x.f2))
structure S32 where
  f0 : Int
  f1 : S29
  f2 : Int
  f3 : S30
def k32 : Kd S32 := Kd.iso (Kd.pair (Kd.int .i64) (Kd.pair k29 (Kd.pair (Kd.int .u8) k30))) (fun x : S32 => (x.f0, x.f1, x.f2, x.f3))
end Go.Proofs.Ytblcmcdifgclcaa.PGridSame
