/-
  The walk over slots: a store of a whole element.
-/
import Derived.Test.YtffjpfpbpnhmcaaGol
set_option linter.unusedVariables false
set_option linter.unusedSimpArgs false
namespace Go.Proofs.Ytffjpfpbpnhmcaa
open Go.RowKit

namespace Rep
variable {α : Type} {R : Rep α}
theorem flatten_set {β : Type} {size : Nat} {X : List (List β)} {i : Nat} {es : List β} (hX : ∀ x ∈ X, x.length = size) (hi : i < X.length) : (X.set i es).flatten = X.flatten.take (i * size) ++ es ++ X.flatten.drop (i * size + size) := by
  rw [List.set_eq_take_append_cons_drop, if_pos hi, List.flatten_append, List.flatten_cons, flatten_take i hX, flatten_drop (i + 1) hX, Nat.succ_mul, List.append_assoc]
theorem take_mid {β : Type} {cur es : List β} {p n k : Nat} (hk : es.length = k) (h1 : p + k ≤ n) (h2 : n ≤ cur.length) : (cur.take p ++ es ++ cur.drop (p + k)).take n = (cur.take n).take p ++ es ++ (cur.take n).drop (p + k) := by
  apply List.ext_getElem?
  intro j
  subst hk
  simp only [List.getElem?_take, List.getElem?_append, List.length_append, List.length_take, List.getElem?_drop]
  grind
/-- A whole element is written. -/
theorem SOwn.setE {E by_ B c i g : Nat} {f : List Nat} {l : List α} {w : World} {q' : α} {es : List Value} {cur : Array Value} (h : R.SOwn E by_ w B f (some ⟨g, 0, none⟩) c l) (hp : R.Bare) (hi : i < l.length) (hq : ∀ w, R.has w es q') (hcur : w.heap[g]? = some (.cells cur E (0, 0))) :
    R.SOwn E by_ (w.setRow g (cur.toList.take (i * R.size) ++ es ++ cur.toList.drop (i * R.size + es.length)).toArray) B f (some ⟨g, 0, none⟩) c (l.set i q') ∧ i * R.size + es.length ≤ cur.toList.length := by
  obtain ⟨hb, ps, rfl, hn, ho, hall⟩ := h
  have hel : es.length = R.size := R.len (hq w)
  have hl := olens hall
  have hpl : ps.length = l.length := hall.length
  obtain ⟨hx1, hx2⟩ := ho
  obtain ⟨g', cap, cur', hv, hBg, hh, hnc, hcm, hsz, htk, hG⟩ := hx2.resolve_left (fun hz => nomatch hz.1)
  injection hv with hv1 hv2 hv3
  injection hv1 with hv1
  injection hv1 with hv1 hv4 hv5
  subst hv1 hv3
  rw [hh] at hcur
  injection hcur with hcur
  injection hcur with hcur
  subst hcur
  have hle : i * R.size + R.size ≤ l.length * R.size := by rw [← Nat.succ_mul]; exact Nat.mul_le_mul_right _ hi
  have hle2 : l.length * R.size ≤ c * R.size := Nat.mul_le_mul_right _ hnc
  have hsl : cur'.toList.length = c * R.size := by rw [Array.length_toList, hsz]
  obtain ⟨x, hx, hxo⟩ := hall.at_ (get_d (l := l) (u := q') hi)
  have hx0 : x.1 = [] := hp.2 hxo
  have hdiff : ∀ y ∈ ps, ∀ q ∈ y.1, q ≠ g := fun y hy q hq e => by
    obtain ⟨b, hb'⟩ := hall.left y hy
    rw [hp.2 hb'] at hq
    simp at hq
  have e1 : (ps.set i (x.1, es)).map (·.1) = ps.map (·.1) := by
    rw [List.map_set]
    have : (ps.map (·.1))[i]? = some x.1 := by rw [List.getElem?_map, hx]; rfl
    obtain ⟨h2, h3⟩ := List.getElem?_eq_some_iff.1 this
    conv => lhs; rw [← h3]
    exact List.set_getElem_self _
  have e2 : (ps.set i (x.1, es)).map (·.2) = (ps.map (·.2)).set i es := by rw [List.map_set]
  have hfs := flatten_set (es := es) hl (by rw [List.length_map]; omega : i < (ps.map (·.2)).length)
  rw [hel]
  refine ⟨⟨by rw [List.length_set]; exact hb, ps.set i (x.1, es), by rw [e1], hn, ⟨?_, .inr ⟨g, c, (cur'.toList.take (i * R.size) ++ es ++ cur'.toList.drop (i * R.size + R.size)).toArray, by rw [List.length_set], hBg, ?_, by rw [List.length_set]; exact hnc, hcm, ?_, ?_, ?_⟩⟩, ?_⟩, by omega⟩
  · rw [e2, hfs, List.length_set]
    simp only [List.length_append, List.length_take, List.length_drop, hx1, hel]
    omega
  · exact Blk.setRow (cur := cur'.toList) (by simpa [Blk] using hh) _
  · rw [List.size_toArray]
    simp only [List.length_append, List.length_take, List.length_drop, hsl, hel]
    omega
  · rw [List.length_set, e2, hfs, ← htk]
    exact take_mid hel hle (by omega)
  · intro j u hu
    rw [List.getElem?_toArray] at hu
    by_cases h1 : j < i * R.size
    · refine hG j u ?_
      rw [List.append_assoc, List.getElem?_append_left (by rw [List.length_take]; omega), List.getElem?_take, if_pos h1] at hu
      rw [← Array.getElem?_toList]; exact hu
    · by_cases h2 : j < i * R.size + R.size
      · rw [List.append_assoc, List.getElem?_append_right (by rw [List.length_take]; omega), List.getElem?_append_left (by rw [List.length_take]; omega), List.length_take] at hu
        have hj : j % R.size = j - i * R.size := by
          have h3 : j = R.size * i + (j - i * R.size) := by rw [Nat.mul_comm]; omega
          have h5 : (j - i * R.size) % R.size = j - i * R.size := Nat.mod_eq_of_lt (by omega)
          conv => lhs; rw [h3, Nat.mul_add_mod, h5]
        rw [hj]
        exact R.raw_ (hq w) _ u (by rw [Nat.min_eq_left (by omega)] at hu; exact hu)
      · refine hG j u ?_
        rw [List.getElem?_append_right (by simp only [List.length_append, List.length_take]; omega), List.getElem?_drop] at hu
        rw [← Array.getElem?_toList]
        rw [show i * R.size + R.size + (j - (List.take (i * R.size) cur'.toList ++ es).length) = j from by simp only [List.length_append, List.length_take]; omega] at hu
        exact hu
  · have hall2 : All2 (fun x a => R.own (w.setRow g (cur'.toList.take (i * R.size) ++ es ++ cur'.toList.drop (i * R.size + R.size)).toArray) B x.1 x.2 a) ps l := hall.imp fun y a hy hyo => R.okeep hyo fun q hq => (Mod.setRow w g _).block q (R.olt hyo q hq).2 (by simpa using hdiff y hy q hq)
    exact hall2.set_ (P := fun (x : List Nat × List Value) a => R.own _ B x.1 x.2 a) (by rw [hx0]; exact hp.1 (hq _))
end Rep
section
variable {P : Program} {n : Nat} {E E' : List (Nat × Value)} {a : Act} {w w' w0 w1 : World} {Q : Exit → Act → World → Prop} {ops : Array Oper} {v : Value}
variable {d : Option Nat} {ty : TypeId} {pos : String} {af : Array Edge} {g : Option (Nat × Bool)} {x y z : Operand} {t : TypeId} {rest : List Oper}
/-- A whole element of a slice of one's own is written. -/
theorem soE {α : Type} {R : Rep α} {e by_ B i : Nat} {A : Option Addr} {c : Nat} {l : List α} {q' : α} {p : Addr} {es : List Value} (h : R.SOwn e by_ w B (Rep.blkOf A) A c l) (hR : R.Bare) (hi : i < l.length) (hx : ev E x = some (.pointer (some p))) (hp : p = ⟨bA A, oA A + i * R.size, none⟩) (hy : ev E y = some v) (hc : v.cells = es.toArray)
    (hq : ∀ w, R.has w es q') (hs : Sz P t es.length)
    (hk : ∀ w1, Mod (Rep.blkOf A) w w1 → R.SOwn e by_ w1 B (Rep.blkOf A) A c (l.set i q') → WL P n ops Q rest E w1) : WL P n ops Q (⟨none, .store t x y, ty, pos, af, none⟩ :: rest) E w := by
  obtain ⟨b, rfl⟩ := h.block (by omega)
  have hp' : p = ⟨b, i * R.size, none⟩ := by rw [hp]; simp [bA, oA]
  subst hp'
  obtain ⟨_, ps, _, _, ho, _⟩ := id h
  obtain ⟨cur, hcur, _, _⟩ := ho.cells_at
  obtain ⟨hset, hle⟩ := Rep.SOwn.setE (q' := q') h hR hi hq hcur
  have hst := run_storeVar (P := P) (w := w) (b := b) (p := i * R.size) (cur := cur.toList) (e := e) (by simpa [Blk] using hcur) hc hs (List.all_eq_true.2 (R.one (hq w))) hle
  refine us (fun n a ha => ?_) (hk _ (Mod.setRow w b _) hset)
  simp only [execOp, ha.ev hx, ha.ev hy, Instr.storeAt, Instr.sureAddr, Sem.run_bind, Sem.run_pure, Result.andThen_ok, hst]
/-- The first so many of a slice. -/
def pfx (A : Option Addr) (_hi : Nat) : Option Addr := A
theorem sP {A : Option Addr} {len cap e s : Nat} {k : IntKind} (hi m : Nat) {i : Int} (ht : P.underlying t = some (.slice e)) (hs : Sz P e s) (hx : ev E x = some (.slice A len cap)) (hy : ev E y = some (.int k i)) (h1 : i = (hi : Int)) (h2 : hi ≤ cap) (hm : m = hi) : Runs P E ⟨d, .slice t x none (some y) none, ty, pos, af, g⟩ w (.slice (pfx A hi) m cap) w := fun n a ha => by
  subst h1; subst hm
  have h1 : P.underlying t = some (.slice (P.elem t)) := by simp [Program.elem, ht]
  have q2 : P.elem t = e := by simp [Program.elem, ht]
  have h3 := run_slice_h (P := P) (w := w) t A len cap h1 k (m : Int) (by omega) (by omega)
  have h4 := run_sliceAt_slice (P := P) (w := w) t (.slice A len cap) none (some (.int k (m : Int))) none h1
  rw [q2, hs w] at h3
  simp only [execOp, ha.ev hx, ha.ev hy, Option.map, h4, h3, Sem.run_bind, Result.andThen_ok, Sem.run_pure, sliced, Int.toNat_natCast, Nat.sub_zero]
  unfold pfx
  cases A with
  | none => simp
  | some a => simp [Addr.add]
end
theorem Rep.SHas.pre {α : Type} {R : Rep α} {by_ c : Nat} {A : Option Addr} {l : List α} {w : World} (h : R.SHas by_ w A c l) (k : Nat) : R.SHas by_ w (pfx A k) c (l.take k) := h.take_ k
end Go.Proofs.Ytffjpfpbpnhmcaa
namespace Go.Proofs.Ytffjpfpbpnhmcaa
open Go.RowKit
section
variable {P : Program} {n : Nat} {E : List (Nat × Value)} {w : World} {Q : Exit → Act → World → Prop} {ops : Array Oper} {kd : Nat → Nat}
/-- Two ways on. -/
def AQ2 (P : Program) (ops : Array Oper) (Q : Exit → Act → World → Prop) (kd : Nat → Nat) (τ1 τ2 : List Nat) : Exit → Act → World → Prop :=
  nrm (fun a w => wpFlow P ops (nrm (Q .normal)) kd τ1 a w ∧ wpFlow P ops (nrm (Q .normal)) kd τ2 a w)
end
end Go.Proofs.Ytffjpfpbpnhmcaa
