/-
  musterfield/api.Blow: how it lies in cells.
-/
import Derived.Test.YtfabhinehfhndaaBas
import Derived.Test.YtfabhinehfhndaaProg
set_option linter.unusedVariables false
set_option linter.unusedSimpArgs false
namespace Go.Proofs.Ytfabhinehfhndaa
open Go.RowKit

structure Blw where
  who : Int
  whom : Int
  deriving DecidableEq, Inhabited
namespace Blw
def cells (a : Blw) : List Value := [.int .i64 (a.who), .int .i64 (a.whom)]
/-- Each number is one of its kind. -/
def ok (a : Blw) : Prop := (Lit.int .i64 a.who).wf = true ∧ (Lit.int .i64 a.whom).wf = true
def raw (j : Nat) (u : Value) : Prop := match j with
  | 0 => ∃ n : Int, u = .int .i64 n
  | 1 => ∃ n : Int, u = .int .i64 n
  | _ => True
theorem cells_raw (a : Blw) : ∀ (j : Nat) u, a.cells[j]? = some u → raw j u := by
  intro j u hu
  match j, hu with
  | 0, hu => exact ⟨_, (Option.some.inj hu).symm⟩
  | 1, hu => exact ⟨_, (Option.some.inj hu).symm⟩
  | j + 2, hu => exact trivial
theorem cells_one (a : Blw) : ∀ u ∈ a.cells, u.oneCell' = true := by
  intro u hu
  unfold cells at hu
  simp only [List.mem_cons, List.not_mem_nil, or_false] at hu
  rcases hu with rfl | rfl <;> rfl
def rep : Rep Blw := Rep.flat 2 cells ok raw (fun _ => rfl) cells_one cells_raw
theorem plain : rep.Plain := Rep.flat_plain
def zero : Value := .agg #[.int .i64 0, .int .i64 0]
theorem zero_raw : ∀ (j : Nat) u, zero.cells[j]? = some u → rep.raw j u := by
  intro j u hu
  have hu : (#[(.int .i64 0 : Value), (.int .i64 0 : Value)] : Array Value)[j]? = some u := hu
  match j, hu with
  | 0, hu => exact ⟨_, (Option.some.inj hu).symm⟩
  | 1, hu => exact ⟨_, (Option.some.inj hu).symm⟩
  | j + 2, hu => cases hu
theorem info : (Try.prog.info? 95).map (fun i => (i.zero, i.size, i.bytes)) = some (some zero, 2, 16) := by kernel_rfl
/-- The cells of a slice of such. -/
theorem at_ {by_ : Nat} {w : World} {A : Option Addr} {c : Nat} {l : List Blw} (h : rep.SHas by_ w A c l) (h0 : 0 < l.length) :
    ∃ b o, A = some ⟨b, o, none⟩ ∧ ∀ (i : Nat) (a : Blw), l[i]? = some a → w.cell? ⟨b, o + i * 2, none⟩ = some (.int .i64 (a.who)) ∧ w.cell? ⟨b, o + i * 2 + 1, none⟩ = some (.int .i64 (a.whom)) := by
  obtain ⟨b, o, e, hc⟩ := h.at_ h0
  refine ⟨b, o, e, fun i a ha => ?_⟩
  obtain ⟨es, ⟨rfl, _⟩, hj⟩ := hc i a ha
  exact ⟨hj 0 _ rfl, hj 1 _ rfl⟩
theorem all_ok {by_ : Nat} {w : World} {A : Option Addr} {c : Nat} {l : List Blw} (h : rep.SHas by_ w A c l) : ∀ a ∈ l, a.ok := Rep.SHas.all_ (R := rep) (Q := ok) (fun {w cs a} (h : rep.has w cs a) => (show cs = a.cells ∧ a.ok from h).2) h
theorem blk {w : World} {g : Nat} {t : TypeId} {fr : Nat × Nat} {a : Blw} (h : Blk w g a.cells t fr) : w.cell? ⟨g, 0, none⟩ = some (.int .i64 (a.who)) ∧ w.cell? ⟨g, 1, none⟩ = some (.int .i64 (a.whom)) :=
  ⟨h.cell 0, h.cell 1⟩
def sh : Sh := (.cons (.int .i64) (.cons (.int .i64) .nil))
theorem opens (w : World) (cs : List Value) (h : sh.Ok w cs) : ∃ a, rep.has w cs a := by
  obtain ⟨_, _, rfl, _, _, ⟨x0, rfl, k0⟩, ⟨_, _, rfl, _, _, ⟨x1, rfl, k1⟩, rfl⟩⟩ := h
  exact ⟨⟨x0, x1⟩, rfl, k0, k1⟩
end Blw
theorem hcW {w : World} {cs : List Value} {a : Blw} (h : Blw.rep.has w cs a) : cs = a.cells := And.left (show cs = a.cells ∧ a.ok from h)
end Go.Proofs.Ytfabhinehfhndaa
