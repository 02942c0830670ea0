import Derived.Test.YtlikikpgmmkjbaaGreatFlW
import Derived.Shelf.Strings.Builder1
import Derived.Shelf.Small.Bits
import Derived.Shelf.Slices.Clone
import Derived.Shelf.SlicesE.Equal
namespace Go.Proofs
open Go.Shelf
def Tryz.ajL : Go.Shelf.Ren := ⟨fun | 169 => 132 | n => n, fun | 70 => 210 | 9 => 9 | 0 => 0 | 72 => 212 | 37 => 76 | 127 => 252 | 3 => 3 | 5 => 5 | n => n, fun | n => n⟩
theorem Tryz.aAp : Go.Proofs.Lays.n169 Tryz.prog Tryz.ajL := {
  mixed := by kernel_rfl
  f169 := Tryz.func132.trans (congrArg some (by kernel_rfl))
  t0 := Tryz.underlying0
  a0 := Tryz.isAgg0
  z0 := Tryz.sizeOf0
  v0 := Tryz.zeroValue0
  t3 := Tryz.underlying3
  a3 := Tryz.isAgg3
  z3 := Tryz.sizeOf3
  v3 := Tryz.zeroValue3
  t9 := Tryz.underlying9
  a9 := Tryz.isAgg9
  z9 := Tryz.sizeOf9
  v9 := Tryz.zeroValue9
  t37 := Tryz.underlying76
  a37 := Tryz.isAgg76
  z37 := Tryz.sizeOf76
  v37 := Tryz.zeroValue76
  t70 := Tryz.underlying210
  a70 := Tryz.isAgg210
  z70 := Tryz.sizeOf210
  v70 := Tryz.zeroValue210
  t72 := Tryz.underlying212
  a72 := Tryz.isAgg212
  z72 := Tryz.sizeOf212
  v72 := Tryz.zeroValue212
  t127 := Tryz.underlying252
  a127 := Tryz.isAgg252
  z127 := Tryz.sizeOf252
  v127 := Tryz.zeroValue252 }
theorem Tryz.an3 : Builder.Extra Tryz.prog Tryz.ajL := {
  sizeBuilder := by kernel_rfl
  liesBuilder := by kernel_rfl
  t5 := Tryz.underlying5
  a5 := Tryz.isAgg5
  z5 := Tryz.sizeOf5
  v5 := Tryz.zeroValue5
  infoByte := by kernel_rfl
  cellsByte := by kernel_rfl
  sizeByte := by kernel_rfl
  neB5 := by decide }
open Go.RowKit in
theorem Tryz.Builder_String_any (B b : Nat) (l : List UInt8) (w : World) (h : Lib.IsBuilder 212 5 B b (Lib.byteCells l) w) (agr : B ≤ w.heap.size) :
    Calls Tryz.prog 132 #[.pointer (some ⟨b, 0, none⟩)] w fun e w' => e = .returned (.string ⟨l.toArray⟩) ∧ Below B w w' := Any.Builder_String_any Tryz.aAp Tryz.an3 B b l w h agr
end Go.Proofs
