/-
  Bytes in slices; texts by their places; a text of bytes.
-/
import Derived.Test.YtffjpfpbpnhmcaaGolR
import Derived.Laws.IdiomStrings
import Derived.Laws.Strings
set_option linter.unusedVariables false
set_option linter.unusedSimpArgs false
namespace Go.Proofs.Ytffjpfpbpnhmcaa
open Go.RowKit

def repY : Rep UInt8 := Rep.flat 1 (fun b => [.int .u8 (b.toNat : Int)]) (fun _ => True) (fun _ u => ∃ n : Int, u = .int .u8 n) (fun _ => rfl) (by intro a u hu; simp at hu; subst hu; rfl) (by
  intro a j u hu
  cases j with
  | zero => simp at hu; exact ⟨_, hu.symm⟩
  | succ j => simp at hu)
theorem info_u8 : (Try.prog.info? 5).map (fun i => (i.zero, i.size, i.bytes)) = some (some (.int .u8 0), 1, 1) := by kernel_rfl
theorem raw0Y : ∀ (j : Nat) u, (Value.int .u8 0).cells[j]? = some u → repY.raw j u := by
  intro j u hu
  have hu : (#[(.int .u8 0 : Value)] : Array Value)[j]? = some u := hu
  match j, hu with
  | 0, hu => exact ⟨0, (Option.some.inj hu).symm⟩
  | j + 1, hu => simp at hu
theorem repY_at {by_ : Nat} {w : World} {A : Option Addr} {c : Nat} {l : List UInt8} (h : repY.SHas by_ w A c l) (h0 : 0 < l.length) : ∃ b o, A = some ⟨b, o, none⟩ ∧ ∀ (i : Nat) (a : UInt8), l[i]? = some a → w.cell? ⟨b, o + i, none⟩ = some (.int .u8 (a.toNat : Int)) := by
  obtain ⟨b, o, e, hc⟩ := h.at_ h0
  refine ⟨b, o, e, fun i a ha => ?_⟩
  obtain ⟨es, ⟨rfl, _⟩, hj⟩ := hc i a ha
  have := hj 0 _ rfl
  simpa [repY, Rep.flat] using this
/-- A text of these bytes. -/
def bytesS (l : List UInt8) : ByteArray := ⟨l.toArray⟩
section
variable {P : Program} {n : Nat} {E E' : List (Nat × Value)} {w : World} {d : Option Nat} {ty : TypeId} {pos : String} {af : Array Edge} {g : Option (Nat × Bool)} {x y z u : Operand} {t t2 : TypeId}
theorem si {s : ByteArray} {k : IntKind} {i : Int} {v : UInt8} (ht : P.underlying t = some .string) (hx : ev E x = some (.string s)) (hy : ev E y = some (.int k i)) (h0 : 0 ≤ i) (hv : s.data.toList[i.toNat]? = some v) :
    Runs P E ⟨d, .index t x y, ty, pos, af, g⟩ w (.int .u8 (v.toNat : Int)) w := fun n a ha => by
  have hlt := (List.getElem?_eq_some_iff.1 hv).1
  have hsz : i.toNat < s.size := by simpa using hlt
  have hi : 0 ≤ i ∧ i < s.size := by omega
  have hr := run_index_string (P := P) w t s k i ht
  rw [dif_pos hi] at hr
  have e : (s[i.toNat]'hsz) = v := by
    have := (List.getElem?_eq_some_iff.1 hv).2
    simpa [ByteArray.getElem_eq_getElem_data] using this
  simp only [execOp, ha.ev hx, ha.ev hy, Sem.run_bind, hr, Result.andThen_ok, Sem.run_pure, e]
theorem cvB {e : TypeId} {A : Option Addr} {c : Nat} {l : List UInt8} {by_ : Nat} (hs : P.underlying t = some (.slice e)) (he : P.underlying e = some (.int .u8)) (hd : P.underlying t2 = some .string) (h : repY.SHas by_ w A c l) (hx : ev E x = some (.slice A l.length c)) :
    Runs P E ⟨d, .convert t t2 x, ty, pos, af, g⟩ w (.string (bytesS l)) w := fun n a ha => by
  have hr : (convert t t2 (.slice A l.length c)).run P w = .ok (.string (bytesS l)) w := by
    cases A with
    | none =>
      have hc : c = 0 := h.2.2.2.1 rfl
      have hl : l = [] := List.eq_nil_of_length_eq_zero (by have := h.1; omega)
      subst hl; subst hc
      show (convert t t2 (.slice none 0 0)).run P w = _
      rw [run_convert_bytes_string w t t2 e none 0 0 hs he hd]
      simp [Conv.bytesToString]
      rfl
    | some p =>
      cases hl : l with
      | nil =>
        have : ∀ j (hj : j < ([] : List UInt8).length), w.cell? (p.add j) = some (.int .u8 (([] : List UInt8)[j].toNat : Int)) := fun j hj => nomatch hj
        exact run_convert_bytes_back w t t2 e p c [] hs he hd this
      | cons b r =>
        rw [← hl]
        obtain ⟨b, o, rfl', hc⟩ := repY_at h (by rw [hl]; simp)
        injection rfl' with rfl'
        subst rfl'
        exact run_convert_bytes_back w t t2 e _ c l hs he hd fun j hj => by
          have := hc j _ (List.getElem?_eq_getElem hj)
          have e : (⟨b, o, none⟩ : Addr).add j = ⟨b, o + j, none⟩ := by
            unfold Addr.add
            by_cases h0 : j = 0
            · subst h0; simp
            · simp [h0]
          rw [e]; exact this
  simp only [execOp, ha.ev hx, Sem.run_bind, hr, Result.andThen_ok, Sem.run_pure]
theorem str_beq (p q : ByteArray) : (p == q) = decide (p = q) := by
  rw [Bool.eq_iff_iff, decide_eq_true_eq]
  constructor
  · intro h
    obtain ⟨a⟩ := p
    obtain ⟨b⟩ := q
    have : a = b := by simpa using (show (a == b) = true from h)
    rw [this]
  · rintro rfl
    obtain ⟨a⟩ := p
    show (a == a) = true
    simp
theorem bnT {p q : ByteArray} (ht : P.underlying t = some .string) (hx : ev E x = some (.string p)) (hy : ev E y = some (.string q)) : Runs P E ⟨d, .binOp .neq t x y t2, ty, pos, af, g⟩ w (.bool (!decide (p = q))) w := fun n a ha => by
  have : (eqGuard .neq t x y (.string p) (.string q)).run P w = .ok () w := by cases x <;> cases y <;> rfl
  have h2 : (binOp .neq t (.string p) (.string q)).run P w = .ok (.bool (!decide (p = q))) w := by
    simp only [binOp, Op.stringOp, Sem.run_pure]; simp [bne, str_beq]; rw [← beq_toListBytes, str_beq]
  simp only [execOp, ha.ev hx, ha.ev hy, Sem.run_bind, this, h2, Result.andThen_ok, Sem.run_pure]
theorem lnS {s : ByteArray} (ht : P.underlying t = some .string) (hx : ev E x = some (.string s)) (hs : (s.size : Int) ≤ 9223372036854775807) : Runs P E ⟨d, .call { callee := .builtin .len, args := #[x], argTypes := #[t] }, ty, pos, af, g⟩ w (.int .i64 (s.size : Int)) w :=
  bi (vs := [.string s]) (by simp only [evs, hx]) fun cs => by
    have := run_len_string (P := P) w t ty s ht
    simp only [builtin, Sem.run_bind, this, Result.andThen_ok, Sem.run_pure]; rfl
end
end Go.Proofs.Ytffjpfpbpnhmcaa
