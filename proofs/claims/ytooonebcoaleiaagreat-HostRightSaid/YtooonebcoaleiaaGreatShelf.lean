import Derived.Test.YtooonebcoaleiaaGreatLawP
import Derived.Shelf.Strings.BuilderCap
import Derived.Shelf.SlicesE.Equal
import Derived.Shelf.SlicesE.IndexFunc
namespace Go.Proofs
open Go.Shelf
def Tryz.ap4 : Go.Shelf.Ren := ⟨fun | 169 => 91 | n => n, fun | 70 => 159 | 9 => 9 | 0 => 0 | 72 => 162 | 37 => 160 | 127 => 204 | 3 => 3 | 5 => 5 | n => n, fun | n => n⟩
theorem Tryz.aJ2 : Go.Proofs.Lays.n169 Tryz.prog Tryz.ap4 := {
  mixed := by kernel_rfl
  f169 := Tryz.func91.trans (congrArg some (by kernel_rfl))
  t0 := Tryz.underlying0
  a0 := Tryz.isAgg0
  z0 := Tryz.sizeOf0
  v0 := Tryz.zeroValue0
  t3 := Tryz.underlying3
  a3 := Tryz.isAgg3
  z3 := Tryz.sizeOf3
  v3 := Tryz.zeroValue3
  t9 := Tryz.underlying9
  a9 := Tryz.isAgg9
  z9 := Tryz.sizeOf9
  v9 := Tryz.zeroValue9
  t37 := Tryz.underlying160
  a37 := Tryz.isAgg160
  z37 := Tryz.sizeOf160
  v37 := Tryz.zeroValue160
  t70 := Tryz.underlying159
  a70 := Tryz.isAgg159
  z70 := Tryz.sizeOf159
  v70 := Tryz.zeroValue159
  t72 := Tryz.underlying162
  a72 := Tryz.isAgg162
  z72 := Tryz.sizeOf162
  v72 := Tryz.zeroValue162
  t127 := Tryz.underlying204
  a127 := Tryz.isAgg204
  z127 := Tryz.sizeOf204
  v127 := Tryz.zeroValue204 }
theorem Tryz.avx : Builder.Extra Tryz.prog Tryz.ap4 := {
  sizeBuilder := by kernel_rfl
  liesBuilder := by kernel_rfl
  t5 := Tryz.underlying5
  a5 := Tryz.isAgg5
  z5 := Tryz.sizeOf5
  v5 := Tryz.zeroValue5
  infoByte := by kernel_rfl
  cellsByte := by kernel_rfl
  sizeByte := by kernel_rfl
  neB5 := by decide }
open Go.RowKit in
theorem Tryz.Builder_String_any (B b : Nat) (l : List UInt8) (w : World) (h : Lib.IsBuilder 162 5 B b (Lib.byteCells l) w) (al2 : B ≤ w.heap.size) :
    Calls Tryz.prog 91 #[.pointer (some ⟨b, 0, none⟩)] w fun e w' => e = .returned (.string ⟨l.toArray⟩) ∧ Below B w w' := Any.Builder_String_any Tryz.aJ2 Tryz.avx B b l w h al2
end Go.Proofs
