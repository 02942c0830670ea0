/-
  Numbers, truths and texts, one by one, as codecs.
-/
import Derived.Test.YticfnngppcmidaaRep
import Derived.Test.YticfnngppcmidaaProg
set_option linter.unusedVariables false
namespace Go.Proofs.Yticfnngppcmidaa
open Go.RowKit

def okI (n : Int) : Prop := (Lit.int .i64 n).wf = true
theorem okI_iff {n : Int} : okI n ↔ -9223372036854775808 ≤ n ∧ n ≤ 9223372036854775807 := by
  unfold okI
  simp [Lit.wf, IntKind.min, IntKind.max, IntKind.signed, IntKind.bits]
def repI : Rep Int := Rep.flat 1 (fun n => [.int .i64 n]) okI (fun _ u => ∃ n : Int, u = .int .i64 n) (fun _ => rfl) (by intro a u hu; simp at hu; subst hu; rfl) (by
  intro a j u hu
  cases j with
  | zero => simp at hu; exact ⟨a, hu.symm⟩
  | succ j => simp at hu)
def repB : Rep Bool := Rep.flat 1 (fun n => [.bool n]) (fun _ => True) (fun _ u => ∃ n : Bool, u = .bool n) (fun _ => rfl) (by intro a u hu; simp at hu; subst hu; rfl) (by
  intro a j u hu
  cases j with
  | zero => simp at hu; exact ⟨a, hu.symm⟩
  | succ j => simp at hu)
def repS : Rep ByteArray := Rep.flat 1 (fun n => [.string n]) (fun s => s.size ≤ 140737488351232) (fun _ u => ∃ n : ByteArray, u = .string n) (fun _ => rfl) (by intro a u hu; simp at hu; subst hu; rfl) (by
  intro a j u hu
  cases j with
  | zero => simp at hu; exact ⟨a, hu.symm⟩
  | succ j => simp at hu)
theorem repI_plain : repI.Plain := Rep.flat_plain
theorem repB_plain : repB.Plain := Rep.flat_plain
theorem repS_plain : repS.Plain := Rep.flat_plain
section
variable {by_ : Nat} {w : World} {A : Option Addr} {c : Nat}
theorem repI_at {l : List Int} (h : repI.SHas by_ w A c l) (h0 : 0 < l.length) : ∃ b o, A = some ⟨b, o, none⟩ ∧ ∀ (i : Nat) (a : Int), l[i]? = some a → w.cell? ⟨b, o + i, none⟩ = some (.int .i64 a) := by
  obtain ⟨b, o, e, hc⟩ := h.at_ h0
  refine ⟨b, o, e, fun i a ha => ?_⟩
  obtain ⟨es, ⟨rfl, _⟩, hj⟩ := hc i a ha
  have := hj 0 _ rfl
  simpa [repI, Rep.flat] using this
theorem repB_at {l : List Bool} (h : repB.SHas by_ w A c l) (h0 : 0 < l.length) : ∃ b o, A = some ⟨b, o, none⟩ ∧ ∀ (i : Nat) (a : Bool), l[i]? = some a → w.cell? ⟨b, o + i, none⟩ = some (.bool a) := by
  obtain ⟨b, o, e, hc⟩ := h.at_ h0
  refine ⟨b, o, e, fun i a ha => ?_⟩
  obtain ⟨es, ⟨rfl, _⟩, hj⟩ := hc i a ha
  have := hj 0 _ rfl
  simpa [repB, Rep.flat] using this
theorem repS_at {l : List ByteArray} (h : repS.SHas by_ w A c l) (h0 : 0 < l.length) : ∃ b o, A = some ⟨b, o, none⟩ ∧ ∀ (i : Nat) (a : ByteArray), l[i]? = some a → w.cell? ⟨b, o + i, none⟩ = some (.string a) := by
  obtain ⟨b, o, e, hc⟩ := h.at_ h0
  refine ⟨b, o, e, fun i a ha => ?_⟩
  obtain ⟨es, ⟨rfl, _⟩, hj⟩ := hc i a ha
  have := hj 0 _ rfl
  simpa [repS, Rep.flat] using this
end
theorem repI_opens (w : World) (cs : List Value) (h : (.int .i64 : Sh).Ok w cs) : ∃ a, repI.has w cs a := by
  obtain ⟨n, rfl, hn⟩ := h
  exact ⟨n, rfl, hn⟩
theorem repS_opens (w : World) (cs : List Value) (h : (.str : Sh).Ok w cs) : ∃ a, repS.has w cs a := by
  obtain ⟨n, rfl, _, hn⟩ := h
  exact ⟨n, rfl, hn⟩
theorem repI_ok {by_ : Nat} {w : World} {A : Option Addr} {c : Nat} {l : List Int} (h : repI.SHas by_ w A c l) : ∀ a ∈ l, okI a := Rep.SHas.all_ (R := repI) (Q := okI) (fun {w cs a} (h : repI.has w cs a) => (show cs = [.int .i64 a] ∧ okI a from h).2) h
theorem info_int : (Try.prog.info? 3).map (fun i => (i.zero, i.size, i.bytes)) = some (some (.int .i64 0), 1, 8) := by kernel_rfl
theorem get_of {α : Type} {l : List α} {i : Nat} (h : i < l.length) : ∃ a, l[i]? = some a := ⟨_, List.getElem?_eq_getElem h⟩
end Go.Proofs.Yticfnngppcmidaa
