/-
  musterfield/path.node: how it lies in cells.
-/
import Derived.Test.YtffjpfpbpnhmcaaBas
import Derived.Test.YtffjpfpbpnhmcaaProg
import Derived.Test.YtffjpfpbpnhmcaaWld
set_option linter.unusedVariables false
namespace Go.Proofs.Ytffjpfpbpnhmcaa
open Go.RowKit

structure Nod where
  cell : Cel
  far : Int
  all : Int
  deriving DecidableEq, Inhabited
namespace Nod
def cells (a : Nod) : List Value := [.int .i64 (a.cell.x), .int .i64 (a.cell.y), .int .i64 (a.far), .int .i64 (a.all)]
/-- Each number is one of its kind. -/
def ok (a : Nod) : Prop := (Lit.int .i64 a.cell.x).wf = true ∧ (Lit.int .i64 a.cell.y).wf = true ∧ (Lit.int .i64 a.far).wf = true ∧ (Lit.int .i64 a.all).wf = true
def raw (j : Nat) (u : Value) : Prop := match j with
  | 0 => ∃ n : Int, u = .int .i64 n
  | 1 => ∃ n : Int, u = .int .i64 n
  | 2 => ∃ n : Int, u = .int .i64 n
  | 3 => ∃ n : Int, u = .int .i64 n
  | _ => True
theorem cells_raw (a : Nod) : ∀ (j : Nat) u, a.cells[j]? = some u → raw j u := by
  intro j u hu
  match j, hu with
  | 0, hu => exact ⟨_, (Option.some.inj hu).symm⟩
  | 1, hu => exact ⟨_, (Option.some.inj hu).symm⟩
  | 2, hu => exact ⟨_, (Option.some.inj hu).symm⟩
  | 3, hu => exact ⟨_, (Option.some.inj hu).symm⟩
  | j + 4, hu => exact trivial
theorem cells_one (a : Nod) : ∀ u ∈ a.cells, u.oneCell' = true := by
  intro u hu
  unfold cells at hu
  simp only [List.mem_cons, List.not_mem_nil, or_false] at hu
  rcases hu with rfl | rfl | rfl | rfl <;> rfl
def rep : Rep Nod := Rep.flat 4 cells ok raw (fun _ => rfl) cells_one cells_raw
theorem plain : rep.Plain := Rep.flat_plain
def zero : Value := .agg #[.int .i64 0, .int .i64 0, .int .i64 0, .int .i64 0]
theorem zero_raw : ∀ (j : Nat) u, zero.cells[j]? = some u → rep.raw j u := by
  intro j u hu
  have hu : (#[(.int .i64 0 : Value), (.int .i64 0 : Value), (.int .i64 0 : Value), (.int .i64 0 : Value)] : Array Value)[j]? = some u := hu
  match j, hu with
  | 0, hu => exact ⟨_, (Option.some.inj hu).symm⟩
  | 1, hu => exact ⟨_, (Option.some.inj hu).symm⟩
  | 2, hu => exact ⟨_, (Option.some.inj hu).symm⟩
  | 3, hu => exact ⟨_, (Option.some.inj hu).symm⟩
  | j + 4, hu => cases hu
theorem info : (Try.prog.info? 167).map (fun i => (i.zero, i.size, i.bytes)) = some (some zero, 4, 32) := by kernel_rfl
/-- The cells of a slice of such. -/
theorem at_ {by_ : Nat} {w : World} {A : Option Addr} {c : Nat} {l : List Nod} (h : rep.SHas by_ w A c l) (h0 : 0 < l.length) :
    ∃ b o, A = some ⟨b, o, none⟩ ∧ ∀ (i : Nat) (a : Nod), l[i]? = some a → w.cell? ⟨b, o + i * 4, none⟩ = some (.int .i64 (a.cell.x)) ∧ w.cell? ⟨b, o + i * 4 + 1, none⟩ = some (.int .i64 (a.cell.y)) ∧ w.cell? ⟨b, o + i * 4 + 2, none⟩ = some (.int .i64 (a.far)) ∧ w.cell? ⟨b, o + i * 4 + 3, none⟩ = some (.int .i64 (a.all)) := by
  obtain ⟨b, o, e, hc⟩ := h.at_ h0
  refine ⟨b, o, e, fun i a ha => ?_⟩
  obtain ⟨es, ⟨rfl, _⟩, hj⟩ := hc i a ha
  exact ⟨hj 0 _ rfl, hj 1 _ rfl, hj 2 _ rfl, hj 3 _ rfl⟩
theorem all_ok {by_ : Nat} {w : World} {A : Option Addr} {c : Nat} {l : List Nod} (h : rep.SHas by_ w A c l) : ∀ a ∈ l, a.ok := Rep.SHas.all_ (R := rep) (Q := ok) (fun {w cs a} (h : rep.has w cs a) => (show cs = a.cells ∧ a.ok from h).2) h
theorem blk {w : World} {g : Nat} {t : TypeId} {fr : Nat × Nat} {a : Nod} (h : Blk w g a.cells t fr) : w.cell? ⟨g, 0, none⟩ = some (.int .i64 (a.cell.x)) ∧ w.cell? ⟨g, 1, none⟩ = some (.int .i64 (a.cell.y)) ∧ w.cell? ⟨g, 2, none⟩ = some (.int .i64 (a.far)) ∧ w.cell? ⟨g, 3, none⟩ = some (.int .i64 (a.all)) :=
  ⟨h.cell 0, h.cell 1, h.cell 2, h.cell 3⟩
def sh : Sh := (.cons (.cons (.int .i64) (.cons (.int .i64) .nil)) (.cons (.int .i64) (.cons (.int .i64) .nil)))
theorem opens (w : World) (cs : List Value) (h : sh.Ok w cs) : ∃ a, rep.has w cs a := by
  obtain ⟨_, _, rfl, _, _, ⟨_, _, rfl, _, _, ⟨x0, rfl, k0⟩, ⟨_, _, rfl, _, _, ⟨x1, rfl, k1⟩, rfl⟩⟩, ⟨_, _, rfl, _, _, ⟨x2, rfl, k2⟩, ⟨_, _, rfl, _, _, ⟨x3, rfl, k3⟩, rfl⟩⟩⟩ := h
  exact ⟨⟨⟨x0, x1⟩, x2, x3⟩, rfl, k0, k1, k2, k3⟩
end Nod
end Go.Proofs.Ytffjpfpbpnhmcaa
