/-
  musterfield/api.Event: how it lies in cells.
-/
import Derived.Test.YtfabhinehfhndaaBas
import Derived.Test.YtfabhinehfhndaaProg
import Derived.Test.YtfabhinehfhndaaGol
set_option linter.unusedVariables false
set_option linter.unusedSimpArgs false
namespace Go.Proofs.Ytfabhinehfhndaa
open Go.RowKit

structure Evt where
  kind : Int
  at_ : Int
  keep : Bool
  text : ByteArray
  deriving DecidableEq, Inhabited
namespace Evt
def cells (a : Evt) : List Value := [.int .i64 (a.kind), .int .i64 (a.at_), .bool (a.keep), .string (a.text)]
/-- Each number is one of its kind. -/
def ok (a : Evt) : Prop := (Lit.int .i64 a.kind).wf = true ∧ (Lit.int .i64 a.at_).wf = true ∧ a.text.size ≤ 140737488351232
def raw (j : Nat) (u : Value) : Prop := match j with
  | 0 => ∃ n : Int, u = .int .i64 n
  | 1 => ∃ n : Int, u = .int .i64 n
  | 2 => ∃ b : Bool, u = .bool b
  | 3 => ∃ s : ByteArray, u = .string s
  | _ => True
theorem cells_raw (a : Evt) : ∀ (j : Nat) u, a.cells[j]? = some u → raw j u := by
  intro j u hu
  match j, hu with
  | 0, hu => exact ⟨_, (Option.some.inj hu).symm⟩
  | 1, hu => exact ⟨_, (Option.some.inj hu).symm⟩
  | 2, hu => exact ⟨_, (Option.some.inj hu).symm⟩
  | 3, hu => exact ⟨_, (Option.some.inj hu).symm⟩
  | j + 4, hu => exact trivial
theorem cells_one (a : Evt) : ∀ u ∈ a.cells, u.oneCell' = true := by
  intro u hu
  unfold cells at hu
  simp only [List.mem_cons, List.not_mem_nil, or_false] at hu
  rcases hu with rfl | rfl | rfl | rfl <;> rfl
def rep : Rep Evt := Rep.flat 4 cells ok raw (fun _ => rfl) cells_one cells_raw
theorem plain : rep.Plain := Rep.flat_plain
def zero : Value := .agg #[.int .i64 0, .int .i64 0, .bool false, .string .empty]
theorem all_ok {by_ : Nat} {w : World} {A : Option Addr} {c : Nat} {l : List Evt} (h : rep.SHas by_ w A c l) : ∀ a ∈ l, a.ok := Rep.SHas.all_ (R := rep) (Q := ok) (fun {w cs a} (h : rep.has w cs a) => (show cs = a.cells ∧ a.ok from h).2) h
theorem blk {w : World} {g : Nat} {t : TypeId} {fr : Nat × Nat} {a : Evt} (h : Blk w g a.cells t fr) : w.cell? ⟨g, 0, none⟩ = some (.int .i64 (a.kind)) ∧ w.cell? ⟨g, 1, none⟩ = some (.int .i64 (a.at_)) ∧ w.cell? ⟨g, 2, none⟩ = some (.bool (a.keep)) ∧ w.cell? ⟨g, 3, none⟩ = some (.string (a.text)) :=
  ⟨h.cell 0, h.cell 1, h.cell 2, h.cell 3⟩
def sh : Sh := (.cons (.int .i64) (.cons (.int .i64) (.cons .bool (.cons .str .nil))))
theorem opens (w : World) (cs : List Value) (h : sh.Ok w cs) : ∃ a, rep.has w cs a := by
  obtain ⟨_, _, rfl, _, _, ⟨x0, rfl, k0⟩, ⟨_, _, rfl, _, _, ⟨x1, rfl, k1⟩, ⟨_, _, rfl, _, _, ⟨x2, rfl⟩, ⟨_, _, rfl, _, _, ⟨x3, rfl, _, k3⟩, rfl⟩⟩⟩⟩ := h
  exact ⟨⟨x0, x1, x2, x3⟩, rfl, k0, k1, k3⟩
end Evt
end Go.Proofs.Ytfabhinehfhndaa
