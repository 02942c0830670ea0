/-
  More words on codecs.
-/
import Derived.Test.YticfnngppcmidaaRep
set_option linter.unusedVariables false
namespace Go.Proofs.Yticfnngppcmidaa
open Go.RowKit

theorem flat_raw {α : Type} {R : Rep α} {w : World} {ess : List (List Value)} {l : List α} (h : All2 (fun es a => R.has w es a) ess l) (h0 : 0 < R.size) {j : Nat} {u : Value} (hu : ess.flatten[j]? = some u) : R.raw (j % R.size) u := by
  have hl := Rep.lens h
  have hlt := (List.getElem?_eq_some_iff.1 hu).1
  rw [flat_len hl] at hlt
  have hj : j % R.size < R.size := Nat.mod_lt _ h0
  have hd : j / R.size < ess.length := by rw [Nat.div_lt_iff_lt_mul h0]; exact hlt
  have hsum : j / R.size * R.size + j % R.size = j := by rw [Nat.mul_comm]; exact Nat.div_add_mod j R.size
  have h6 := flat_get (j := j % R.size) hl (i := j / R.size) (es := ess[j / R.size]'hd) (List.getElem?_eq_getElem hd) hj
  rw [hsum, hu] at h6
  obtain ⟨a, ha⟩ := h.left _ (List.getElem_mem hd)
  exact R.raw_ ha _ u h6.symm
namespace Rep
variable {α : Type} {w w' : World} {B : Nat} {f : List Nat} {R : Rep α} {E : TypeId} {A : Option Addr} {by_ g c : Nat} {l : List α}
/-- Things that take no block. -/
def Bare (R : Rep α) : Prop := R.Plain ∧ ∀ {w B f cs a}, R.own w B f cs a → f = []
theorem flat_bare {size : Nat} {cells : α → List Value} {ok : α → Prop} {raw : Nat → Value → Prop} {hl h1 hr} : (flat size cells ok raw hl h1 hr).Bare := ⟨flat_plain, fun h => h.1⟩
/-- One cell of an array of one's own, written. -/
theorem SOwn.setj (h : R.SOwn E by_ w B f (some ⟨g, 0, none⟩) c l) (hp : R.Bare) {i j : Nat} {a a' : α} {u : Value} (hi : l[i]? = some a) (hj : j < R.size) (hu : ∀ cs, R.has w cs a → R.has (w.setCell ⟨g, i * R.size + j, none⟩ u) (cs.set j u) a') :
    R.SOwn E by_ (w.setCell ⟨g, i * R.size + j, none⟩ u) B f (some ⟨g, 0, none⟩) c (l.set i a') := by
  obtain ⟨hb, ps, rfl, hn, ho, hall⟩ := h
  obtain ⟨x, hx, hxo⟩ := hall.at_ hi
  have hl := olens hall
  have hx1 : x.1 = [] := hp.2 hxo
  have hxl : x.2.length = R.size := R.olen hxo
  have hnew := hu x.2 (R.ohas hxo)
  have hraw : R.raw j u := R.raw_ hnew j u (by rw [List.getElem?_set_self (by omega)])
  have h9 := ho.stored (i * R.size + j) u (by rw [Nat.mul_comm, Nat.mul_add_mod, Nat.mod_eq_of_lt hj]; exact hraw)
  rw [flat_set u hl (i := i) (es := x.2) (by rw [List.getElem?_map, hx]; rfl) hj] at h9
  have hlt := (List.getElem?_eq_some_iff.1 hx).1
  have e1 : (ps.set i (x.1, x.2.set j u)).map (·.1) = ps.map (·.1) := by
    rw [List.map_set]
    have : (ps.map (·.1))[i]? = some x.1 := by rw [List.getElem?_map, hx]; rfl
    obtain ⟨h2, h3⟩ := List.getElem?_eq_some_iff.1 this
    conv => lhs; rw [← h3]
    exact List.set_getElem_self _
  have e2 : (ps.set i (x.1, x.2.set j u)).map (·.2) = (ps.map (·.2)).set i (x.2.set j u) := by rw [List.map_set]
  have hdiff : ∀ y ∈ ps, ∀ q ∈ y.1, q ≠ g := fun y hy q hq e => by
    obtain ⟨b, hb'⟩ := hall.left y hy
    rw [hp.2 hb'] at hq
    simp at hq
  have hall2 : All2 (fun x a => R.own (w.setCell ⟨g, i * R.size + j, none⟩ u) B x.1 x.2 a) ps l := hall.imp fun y a hy hyo => R.okeep hyo fun q hq => heap_setCell_other _ _ _ _ (hdiff y hy q hq)
  refine ⟨by rw [List.length_set]; exact hb, ps.set i (x.1, x.2.set j u), by rw [e1], hn, by rw [List.length_set, e2]; exact h9, ?_⟩
  exact hall2.set_ (P := fun (x : List Nat × List Value) a => R.own (w.setCell ⟨g, i * R.size + j, none⟩ u) B x.1 x.2 a) (by rw [hx1]; exact hp.1 hnew)
/-- A store into a block that is none of these. -/
theorem SOwn.other (h : R.SOwn E by_ w B f A c l) {p : Addr} (hp : p.block ∉ f) (u : Value) : R.SOwn E by_ (w.setCell p u) B f A c l :=
  h.keep fun g hg => heap_setCell_other _ _ _ _ fun e => hp (e ▸ hg)
theorem SOwn.drewN (h : R.SOwn E by_ w B f A c l) (k : Nat) : R.SOwn E by_ (w.drewN k) B f A c l := h.keep fun _ _ => rfl
theorem SOwn.drew (h : R.SOwn E by_ w B f A c l) : R.SOwn E by_ w.drew B f A c l := h.keep fun _ _ => rfl
end Rep
end Go.Proofs.Yticfnngppcmidaa
