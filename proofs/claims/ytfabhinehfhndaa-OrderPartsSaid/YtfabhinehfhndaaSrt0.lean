/-
  Numbers in cells.
-/
import Derived.Test.YtfabhinehfhndaaGolC
set_option linter.unusedVariables false
set_option linter.unusedSimpArgs false
namespace Go.Proofs.Ytfabhinehfhndaa
open Go.RowKit

theorem ess_ints {w : World} : ∀ {ess : List (List Value)} {l : List Int}, All2 (fun es a => repI.has w es a) ess l → ess.flatten = l.map (Value.int .i64)
  | [], [], _ => rfl
  | es :: ess, a :: l, h => by
    obtain ⟨h1, h2⟩ := h
    rw [List.flatten_cons, hcI h1, ess_ints h2]; rfl
  | [], _ :: _, h => h.elim
  | _ :: _, [], h => h.elim
theorem all_ints {w : World} : ∀ {l : List Int}, (∀ a ∈ l, okI a) → All2 (fun es a => repI.has w es a) (l.map fun a => [Value.int .i64 a]) l
  | [], _ => trivial
  | a :: l, h => ⟨⟨rfl, h a List.mem_cons_self⟩, all_ints fun b hb => h b (List.mem_cons_of_mem _ hb)⟩
end Go.Proofs.Ytfabhinehfhndaa
