/-
  Cells as a map's keys.
-/
import Derived.Test.YtfabhinehfhndaaWld
import Derived.Test.YtfabhinehfhndaaBas
set_option linter.unusedVariables false
set_option linter.unusedSimpArgs false
namespace Go.Proofs.Ytfabhinehfhndaa
open Go.RowKit Go.Maps

namespace Cel
def key (c : Cel) : Value := .agg #[.int .i64 c.x, .int .i64 c.y]
theorem laid : laidOutB Try.prog = true := by kernel_rfl
theorem key_formed (x y : Int) : (Value.agg #[.int .i64 x, .int .i64 y]).formed Try.prog 90 = true := by kernel_rfl
theorem key_type : Try.prog.keyType 90 = true := by kernel_rfl
theorem key_size : ∃ n, Try.prog.types.size + 1 = n + 2 := by
  have : 1 ≤ Try.prog.types.size := by decide +kernel
  exact ⟨Try.prog.types.size - 1, by omega⟩
theorem key_cells : Try.prog.cellsOf 90 = 2 ∧ Try.prog.cellsOf 3 = 1 := by
  constructor <;> kernel_rfl
theorem key_lit (c : Cel) (h : c.ok) : ∃ l, keyOf Try.prog 90 (key c) = some l := by
  obtain ⟨hx, hy⟩ := h
  obtain ⟨n, hn⟩ := key_size
  unfold key keyOf
  have hu := Try.underlying90
  rw [hu]
  simp only [key_type, key_formed, Bool.and_self, if_true, hn]
  have h1 : Try.prog.keyLits (n + 2) 90 [.int .i64 c.x, .int .i64 c.y] = some [.int .i64 c.x, .int .i64 c.y] := by
    simp [Program.keyLits, hu, Try.underlying3, key_cells, hx, hy]
  exact ⟨.string (keyBytes [.int .i64 c.x, .int .i64 c.y]), by
    have e : (Value.agg #[.int .i64 c.x, .int .i64 c.y]).cells.toList = [.int .i64 c.x, .int .i64 c.y] := rfl
    rw [e, h1]; rfl⟩
theorem key_ok : KeyOk Try.prog 90 key ok where
  keyed := Keyed.of_law (Go.deep_law_laid laid (m := 100) (by decide) (by decide +kernel) (by kernel_rfl) (by kernel_rfl))
  lit := key_lit
  inj := by
    intro a b h
    unfold key at h
    injection h with h
    obtain ⟨x, y⟩ := a
    obtain ⟨z, t⟩ := b
    simp at h
    simp [h]
end Cel
end Go.Proofs.Ytfabhinehfhndaa
