import Derived.Test.YtmeeljmapailnaaGreatFlW
import Derived.Shelf.Strings.BuilderCap
import Derived.Shelf.Slices.Equal
import Derived.Shelf.Slices.Clone
import Derived.Shelf.Slices.Cells
import Derived.Shelf.SlicesE.Equal
import Derived.Shelf.SlicesG.Cmp
namespace Go.Proofs
open Go.Shelf
def Tryz.amO : Go.Shelf.Ren := ⟨fun | 169 => 156 | n => n, fun | 70 => 265 | 9 => 9 | 0 => 0 | 72 => 267 | 37 => 263 | 127 => 295 | 3 => 3 | 5 => 5 | n => n, fun | n => n⟩
theorem Tryz.aFi : Go.Proofs.Lays.n169 Tryz.prog Tryz.amO := {
  mixed := by kernel_rfl
  f169 := Tryz.func156.trans (congrArg some (by kernel_rfl))
  t0 := Tryz.underlying0
  a0 := Tryz.isAgg0
  z0 := Tryz.sizeOf0
  v0 := Tryz.zeroValue0
  t3 := Tryz.underlying3
  a3 := Tryz.isAgg3
  z3 := Tryz.sizeOf3
  v3 := Tryz.zeroValue3
  t9 := Tryz.underlying9
  a9 := Tryz.isAgg9
  z9 := Tryz.sizeOf9
  v9 := Tryz.zeroValue9
  t37 := Tryz.underlying263
  a37 := Tryz.isAgg263
  z37 := Tryz.sizeOf263
  v37 := Tryz.zeroValue263
  t70 := Tryz.underlying265
  a70 := Tryz.isAgg265
  z70 := Tryz.sizeOf265
  v70 := Tryz.zeroValue265
  t72 := Tryz.underlying267
  a72 := Tryz.isAgg267
  z72 := Tryz.sizeOf267
  v72 := Tryz.zeroValue267
  t127 := Tryz.underlying295
  a127 := Tryz.isAgg295
  z127 := Tryz.sizeOf295
  v127 := Tryz.zeroValue295 }
theorem Tryz.arB : Builder.Extra Tryz.prog Tryz.amO := {
  sizeBuilder := by kernel_rfl
  liesBuilder := by kernel_rfl
  t5 := Tryz.underlying5
  a5 := Tryz.isAgg5
  z5 := Tryz.sizeOf5
  v5 := Tryz.zeroValue5
  infoByte := by kernel_rfl
  cellsByte := by kernel_rfl
  sizeByte := by kernel_rfl
  neB5 := by decide }
open Go.RowKit in
theorem Tryz.Builder_String_any (B b : Nat) (l : List UInt8) (w : World) (h : Lib.IsBuilder 267 5 B b (Lib.byteCells l) w) (ajm : B ≤ w.heap.size) :
    Calls Tryz.prog 156 #[.pointer (some ⟨b, 0, none⟩)] w fun e w' => e = .returned (.string ⟨l.toArray⟩) ∧ Below B w w' := Any.Builder_String_any Tryz.aFi Tryz.arB B b l w h ajm
end Go.Proofs
