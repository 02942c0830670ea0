/-
  Bytes in slices; texts by their places; a text of bytes.
-/
import Derived.Test.YtkijhejjnlmbmaaGolR
import Derived.Laws.IdiomStrings
import Derived.Laws.Strings
set_option linter.unusedVariables false
set_option linter.unusedSimpArgs false
namespace Go.Proofs.Ytkijhejjnlmbmaa
open Go.RowKit

def repY : Rep UInt8 := Rep.flat 1 (fun b => [.int .u8 (b.toNat : Int)]) (fun _ => True) (fun _ u => ∃ n : Int, u = .int .u8 n) (fun _ => rfl) (by intro a u hu; simp at hu; subst hu; rfl) (by
  intro a j u hu
  cases j with
  | zero => simp at hu; exact ⟨_, hu.symm⟩
  | succ j => simp at hu)
theorem hcY {w : World} {cs : List Value} {a : UInt8} (h : repY.has w cs a) : cs = [.int .u8 (a.toNat : Int)] := And.left (show cs = [.int .u8 (a.toNat : Int)] ∧ True from h)
theorem repY_at {by_ : Nat} {w : World} {A : Option Addr} {c : Nat} {l : List UInt8} (h : repY.SHas by_ w A c l) (h0 : 0 < l.length) : ∃ b o, A = some ⟨b, o, none⟩ ∧ ∀ (i : Nat) (a : UInt8), l[i]? = some a → w.cell? ⟨b, o + i, none⟩ = some (.int .u8 (a.toNat : Int)) := by
  obtain ⟨b, o, e, hc⟩ := h.at_ h0
  refine ⟨b, o, e, fun i a ha => ?_⟩
  obtain ⟨es, ⟨rfl, _⟩, hj⟩ := hc i a ha
  have := hj 0 _ rfl
  simpa [repY, Rep.flat] using this
/-- A text of these bytes. -/
def bytesS (l : List UInt8) : ByteArray := ⟨l.toArray⟩
section
variable {P : Program} {n : Nat} {E E' : List (Nat × Value)} {w : World} {d : Option Nat} {ty : TypeId} {pos : String} {af : Array Edge} {g : Option (Nat × Bool)} {x y z u : Operand} {t t2 : TypeId}
theorem cvB {e : TypeId} {A : Option Addr} {c : Nat} {l : List UInt8} {by_ : Nat} (hs : P.underlying t = some (.slice e)) (he : P.underlying e = some (.int .u8)) (hd : P.underlying t2 = some .string) (h : repY.SHas by_ w A c l) (hx : ev E x = some (.slice A l.length c)) :
    Runs P E ⟨d, .convert t t2 x, ty, pos, af, g⟩ w (.string (bytesS l)) w := fun n a ha => by
  have hr : (convert t t2 (.slice A l.length c)).run P w = .ok (.string (bytesS l)) w := by
    cases A with
    | none =>
      have hc : c = 0 := h.2.2.2.1 rfl
      have hl : l = [] := List.eq_nil_of_length_eq_zero (by have := h.1; omega)
      subst hl; subst hc
      show (convert t t2 (.slice none 0 0)).run P w = _
      rw [run_convert_bytes_string w t t2 e none 0 0 hs he hd]
      simp [Conv.bytesToString]
      rfl
    | some p =>
      cases hl : l with
      | nil =>
        have : ∀ j (hj : j < ([] : List UInt8).length), w.cell? (p.add j) = some (.int .u8 (([] : List UInt8)[j].toNat : Int)) := fun j hj => nomatch hj
        exact run_convert_bytes_back w t t2 e p c [] hs he hd this
      | cons b r =>
        rw [← hl]
        obtain ⟨b, o, rfl', hc⟩ := repY_at h (by rw [hl]; simp)
        injection rfl' with rfl'
        subst rfl'
        exact run_convert_bytes_back w t t2 e _ c l hs he hd fun j hj => by
          have := hc j _ (List.getElem?_eq_getElem hj)
          have e : (⟨b, o, none⟩ : Addr).add j = ⟨b, o + j, none⟩ := by
            unfold Addr.add
            by_cases h0 : j = 0
            · subst h0; simp
            · simp [h0]
          rw [e]; exact this
  simp only [execOp, ha.ev hx, Sem.run_bind, hr, Result.andThen_ok, Sem.run_pure]
theorem lnS {s : ByteArray} (ht : P.underlying t = some .string) (hx : ev E x = some (.string s)) (hs : (s.size : Int) ≤ 9223372036854775807) : Runs P E ⟨d, .call { callee := .builtin .len, args := #[x], argTypes := #[t] }, ty, pos, af, g⟩ w (.int .i64 (s.size : Int)) w :=
  bi (vs := [.string s]) (by simp only [evs, hx]) fun cs => by
    have := run_len_string (P := P) w t ty s ht
    simp only [builtin, Sem.run_bind, this, Result.andThen_ok, Sem.run_pure]; rfl
end
end Go.Proofs.Ytkijhejjnlmbmaa
