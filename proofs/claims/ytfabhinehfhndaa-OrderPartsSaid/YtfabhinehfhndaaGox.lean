/-
  musterfield/api.Go: how it lies in cells.
-/
import Derived.Test.YtfabhinehfhndaaBas
import Derived.Test.YtfabhinehfhndaaProg
import Derived.Test.YtfabhinehfhndaaWld
set_option linter.unusedVariables false
namespace Go.Proofs.Ytfabhinehfhndaa
open Go.RowKit

structure Gox where
  id : Int
  to : Cel
  deriving DecidableEq, Inhabited
namespace Gox
def cells (a : Gox) : List Value := [.int .i64 (a.id), .int .i64 (a.to.x), .int .i64 (a.to.y)]
/-- Each number is one of its kind. -/
def ok (a : Gox) : Prop := (Lit.int .i64 a.id).wf = true ∧ (Lit.int .i64 a.to.x).wf = true ∧ (Lit.int .i64 a.to.y).wf = true
def raw (j : Nat) (u : Value) : Prop := match j with
  | 0 => ∃ n : Int, u = .int .i64 n
  | 1 => ∃ n : Int, u = .int .i64 n
  | 2 => ∃ n : Int, u = .int .i64 n
  | _ => True
theorem cells_raw (a : Gox) : ∀ (j : Nat) u, a.cells[j]? = some u → raw j u := by
  intro j u hu
  match j, hu with
  | 0, hu => exact ⟨_, (Option.some.inj hu).symm⟩
  | 1, hu => exact ⟨_, (Option.some.inj hu).symm⟩
  | 2, hu => exact ⟨_, (Option.some.inj hu).symm⟩
  | j + 3, hu => exact trivial
theorem cells_one (a : Gox) : ∀ u ∈ a.cells, u.oneCell' = true := by
  intro u hu
  unfold cells at hu
  simp only [List.mem_cons, List.not_mem_nil, or_false] at hu
  rcases hu with rfl | rfl | rfl <;> rfl
def rep : Rep Gox := Rep.flat 3 cells ok raw (fun _ => rfl) cells_one cells_raw
theorem plain : rep.Plain := Rep.flat_plain
def zero : Value := .agg #[.int .i64 0, .int .i64 0, .int .i64 0]
theorem zero_raw : ∀ (j : Nat) u, zero.cells[j]? = some u → rep.raw j u := by
  intro j u hu
  have hu : (#[(.int .i64 0 : Value), (.int .i64 0 : Value), (.int .i64 0 : Value)] : Array Value)[j]? = some u := hu
  match j, hu with
  | 0, hu => exact ⟨_, (Option.some.inj hu).symm⟩
  | 1, hu => exact ⟨_, (Option.some.inj hu).symm⟩
  | 2, hu => exact ⟨_, (Option.some.inj hu).symm⟩
  | j + 3, hu => cases hu
theorem info : (Try.prog.info? 99).map (fun i => (i.zero, i.size, i.bytes)) = some (some zero, 3, 24) := by kernel_rfl
/-- The cells of a slice of such. -/
theorem at_ {by_ : Nat} {w : World} {A : Option Addr} {c : Nat} {l : List Gox} (h : rep.SHas by_ w A c l) (h0 : 0 < l.length) :
    ∃ b o, A = some ⟨b, o, none⟩ ∧ ∀ (i : Nat) (a : Gox), l[i]? = some a → w.cell? ⟨b, o + i * 3, none⟩ = some (.int .i64 (a.id)) ∧ w.cell? ⟨b, o + i * 3 + 1, none⟩ = some (.int .i64 (a.to.x)) ∧ w.cell? ⟨b, o + i * 3 + 2, none⟩ = some (.int .i64 (a.to.y)) := by
  obtain ⟨b, o, e, hc⟩ := h.at_ h0
  refine ⟨b, o, e, fun i a ha => ?_⟩
  obtain ⟨es, ⟨rfl, _⟩, hj⟩ := hc i a ha
  exact ⟨hj 0 _ rfl, hj 1 _ rfl, hj 2 _ rfl⟩
theorem all_ok {by_ : Nat} {w : World} {A : Option Addr} {c : Nat} {l : List Gox} (h : rep.SHas by_ w A c l) : ∀ a ∈ l, a.ok := Rep.SHas.all_ (R := rep) (Q := ok) (fun {w cs a} (h : rep.has w cs a) => (show cs = a.cells ∧ a.ok from h).2) h
theorem blk {w : World} {g : Nat} {t : TypeId} {fr : Nat × Nat} {a : Gox} (h : Blk w g a.cells t fr) : w.cell? ⟨g, 0, none⟩ = some (.int .i64 (a.id)) ∧ w.cell? ⟨g, 1, none⟩ = some (.int .i64 (a.to.x)) ∧ w.cell? ⟨g, 2, none⟩ = some (.int .i64 (a.to.y)) :=
  ⟨h.cell 0, h.cell 1, h.cell 2⟩
def sh : Sh := (.cons (.int .i64) (.cons (.cons (.int .i64) (.cons (.int .i64) .nil)) .nil))
theorem opens (w : World) (cs : List Value) (h : sh.Ok w cs) : ∃ a, rep.has w cs a := by
  obtain ⟨_, _, rfl, _, _, ⟨x0, rfl, k0⟩, ⟨_, _, rfl, _, _, ⟨_, _, rfl, _, _, ⟨x1, rfl, k1⟩, ⟨_, _, rfl, _, _, ⟨x2, rfl, k2⟩, rfl⟩⟩, rfl⟩⟩ := h
  exact ⟨⟨x0, ⟨x1, x2⟩⟩, rfl, k0, k1, k2⟩
end Gox
end Go.Proofs.Ytfabhinehfhndaa
