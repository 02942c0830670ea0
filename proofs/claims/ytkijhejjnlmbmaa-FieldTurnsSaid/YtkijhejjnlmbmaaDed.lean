/-
  musterfield/api.Deed: how it lies in cells.
-/
import Derived.Test.YtkijhejjnlmbmaaBas
import Derived.Test.YtkijhejjnlmbmaaProg
import Derived.Test.YtkijhejjnlmbmaaWld
set_option linter.unusedVariables false
set_option linter.unusedSimpArgs false
namespace Go.Proofs.Ytkijhejjnlmbmaa
open Go.RowKit

structure Ded where
  kind : Int
  who : Int
  spot : Cel
  what : Int
  deriving DecidableEq, Inhabited
namespace Ded
def cells (a : Ded) : List Value := [.int .i64 (a.kind), .int .i64 (a.who), .int .i64 (a.spot.x), .int .i64 (a.spot.y), .int .i64 (a.what)]
/-- Each number is one of its kind. -/
def ok (a : Ded) : Prop := (Lit.int .i64 a.kind).wf = true ∧ (Lit.int .i64 a.who).wf = true ∧ (Lit.int .i64 a.spot.x).wf = true ∧ (Lit.int .i64 a.spot.y).wf = true ∧ (Lit.int .i64 a.what).wf = true
def raw (j : Nat) (u : Value) : Prop := match j with
  | 0 => ∃ n : Int, u = .int .i64 n
  | 1 => ∃ n : Int, u = .int .i64 n
  | 2 => ∃ n : Int, u = .int .i64 n
  | 3 => ∃ n : Int, u = .int .i64 n
  | 4 => ∃ n : Int, u = .int .i64 n
  | _ => True
theorem cells_raw (a : Ded) : ∀ (j : Nat) u, a.cells[j]? = some u → raw j u := by
  intro j u hu
  match j, hu with
  | 0, hu => exact ⟨_, (Option.some.inj hu).symm⟩
  | 1, hu => exact ⟨_, (Option.some.inj hu).symm⟩
  | 2, hu => exact ⟨_, (Option.some.inj hu).symm⟩
  | 3, hu => exact ⟨_, (Option.some.inj hu).symm⟩
  | 4, hu => exact ⟨_, (Option.some.inj hu).symm⟩
  | j + 5, hu => exact trivial
theorem cells_one (a : Ded) : ∀ u ∈ a.cells, u.oneCell' = true := by
  intro u hu
  unfold cells at hu
  simp only [List.mem_cons, List.not_mem_nil, or_false] at hu
  rcases hu with rfl | rfl | rfl | rfl | rfl <;> rfl
def rep : Rep Ded := Rep.flat 5 cells ok raw (fun _ => rfl) cells_one cells_raw
theorem plain : rep.Plain := Rep.flat_plain
def zero : Value := .agg #[.int .i64 0, .int .i64 0, .int .i64 0, .int .i64 0, .int .i64 0]
def sh : Sh := (.cons (.int .i64) (.cons (.int .i64) (.cons (.cons (.int .i64) (.cons (.int .i64) .nil)) (.cons (.int .i64) .nil))))
theorem opens (w : World) (cs : List Value) (h : sh.Ok w cs) : ∃ a, rep.has w cs a := by
  obtain ⟨_, _, rfl, _, _, ⟨x0, rfl, k0⟩, ⟨_, _, rfl, _, _, ⟨x1, rfl, k1⟩, ⟨_, _, rfl, _, _, ⟨_, _, rfl, _, _, ⟨x2, rfl, k2⟩, ⟨_, _, rfl, _, _, ⟨x3, rfl, k3⟩, rfl⟩⟩, ⟨_, _, rfl, _, _, ⟨x4, rfl, k4⟩, rfl⟩⟩⟩⟩ := h
  exact ⟨⟨x0, x1, ⟨x2, x3⟩, x4⟩, rfl, k0, k1, k2, k3, k4⟩
end Ded
end Go.Proofs.Ytkijhejjnlmbmaa
