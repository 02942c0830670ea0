import Derived.Test.YtokehopkfnipmaaGol
import Derived.RangeFuncNested
import Derived.RangeFuncLeaves
import Derived.OrdersIn
import Derived.TacticsIn
import Derived.LoopNIn
import Derived.Laws.IdiomCopy
import Derived.Test.YtokehopkfnipmaaWld
set_option linter.unusedVariables false
set_option linter.unusedSimpArgs false
namespace Go.Proofs.Ytokehopkfnipmaa
open Go.RowKit

namespace Rep
variable {α : Type} {R : Rep α}
theorem flatten_set {β : Type} {size : Nat} {X : List (List β)} {i : Nat} {es : List β} (hX : ∀ x ∈ X, x.length = size) (hi : i < X.length) : (X.set i es).flatten = X.flatten.take (i * size) ++ es ++ X.flatten.drop (i * size + size) := by
 rw [List.set_eq_take_append_cons_drop, if_pos hi, List.flatten_append, List.flatten_cons, flatten_take i hX, flatten_drop (i + 1) hX, Nat.succ_mul, List.append_assoc]
theorem take_mid {β : Type} {cur es : List β} {p n k : Nat} (hk : es.length = k) (h1 : p + k ≤ n) (h2 : n ≤ cur.length) : (cur.take p ++ es ++ cur.drop (p + k)).take n = (cur.take n).take p ++ es ++ (cur.take n).drop (p + k) := by
 apply List.ext_getElem?
 intro j
 subst hk
 simp only [List.getElem?_take, List.getElem?_append, List.length_append, List.length_take, List.getElem?_drop]
 grind
theorem SOwn.setE {E by_ B c i g : Nat} {f : List Nat} {l : List α} {w : World} {q' : α} {es : List Value} {cur : Array Value} (h : R.SOwn E by_ w B f (some ⟨g, 0, none⟩) c l) (hp : R.Bare) (hi : i < l.length) (hq : ∀ w, R.has w es q') (hcur : w.heap[g]? = some (.cells cur E (0, 0))) :
  R.SOwn E by_ (w.setRow g (cur.toList.take (i * R.size) ++ es ++ cur.toList.drop (i * R.size + es.length)).toArray) B f (some ⟨g, 0, none⟩) c (l.set i q') ∧ i * R.size + es.length ≤ cur.toList.length := by
 obtain ⟨hb, ps, rfl, hn, ho, hall⟩ := h
 have hel : es.length = R.size := R.len (hq w)
 have hl := olens hall
 have hpl : ps.length = l.length := hall.length
 obtain ⟨hx1, hx2⟩ := ho
 obtain ⟨g', cap, cur', hv, hBg, hh, hnc, hcm, hsz, htk, hG⟩ := hx2.resolve_left (fun hz => nomatch hz.1)
 injection hv with hv1 hv2 hv3
 injection hv1 with hv1
 injection hv1 with hv1 hv4 hv5
 subst hv1 hv3
 rw [hh] at hcur
 injection hcur with hcur
 injection hcur with hcur
 subst hcur
 have hle : i * R.size + R.size ≤ l.length * R.size := by rw [← Nat.succ_mul]; exact Nat.mul_le_mul_right _ hi
 have hle2 : l.length * R.size ≤ c * R.size := Nat.mul_le_mul_right _ hnc
 have hsl : cur'.toList.length = c * R.size := by rw [Array.length_toList, hsz]
 obtain ⟨x, hx, hxo⟩ := hall.at_ (get_d (l := l) (u := q') hi)
 have hx0 : x.1 = [] := hp.2 hxo
 have hdiff : ∀ y ∈ ps, ∀ q ∈ y.1, q ≠ g := fun y hy q hq e => by
  obtain ⟨b, hb'⟩ := hall.left y hy
  rw [hp.2 hb'] at hq
  simp at hq
 have e1 : (ps.set i (x.1, es)).map (·.1) = ps.map (·.1) := by
  rw [List.map_set]
  have : (ps.map (·.1))[i]? = some x.1 := by rw [List.getElem?_map, hx]; rfl
  obtain ⟨h2, h3⟩ := List.getElem?_eq_some_iff.1 this
  conv => lhs; rw [← h3]
  exact List.set_getElem_self _
 have e2 : (ps.set i (x.1, es)).map (·.2) = (ps.map (·.2)).set i es := by rw [List.map_set]
 have hfs := flatten_set (es := es) hl (by rw [List.length_map]; omega : i < (ps.map (·.2)).length)
 rw [hel]
 refine ⟨⟨by rw [List.length_set]; exact hb, ps.set i (x.1, es), by rw [e1], hn, ⟨?_, .inr ⟨g, c, (cur'.toList.take (i * R.size) ++ es ++ cur'.toList.drop (i * R.size + R.size)).toArray, by rw [List.length_set], hBg, ?_, by rw [List.length_set]; exact hnc, hcm, ?_, ?_, ?_⟩⟩, ?_⟩, by omega⟩
 ·rw [e2, hfs, List.length_set]
  simp only [List.length_append, List.length_take, List.length_drop, hx1, hel]
  omega
 ·exact Blk.setRow (cur := cur'.toList) (by simpa [Blk] using hh) _
 ·rw [List.size_toArray]
  simp only [List.length_append, List.length_take, List.length_drop, hsl, hel]
  omega
 ·rw [List.length_set, e2, hfs, ← htk]
  exact take_mid hel hle (by omega)
 ·intro j u hu
  rw [List.getElem?_toArray] at hu
  by_cases h1 : j < i * R.size
  ·refine hG j u ?_
   rw [List.append_assoc, List.getElem?_append_left (by rw [List.length_take]; omega), List.getElem?_take, if_pos h1] at hu
   rw [← Array.getElem?_toList]; exact hu
  ·by_cases h2 : j < i * R.size + R.size
   ·rw [List.append_assoc, List.getElem?_append_right (by rw [List.length_take]; omega), List.getElem?_append_left (by rw [List.length_take]; omega), List.length_take] at hu
    have hj : j % R.size = j - i * R.size := by
     have h3 : j = R.size * i + (j - i * R.size) := by rw [Nat.mul_comm]; omega
     have h5 : (j - i * R.size) % R.size = j - i * R.size := Nat.mod_eq_of_lt (by omega)
     conv => lhs; rw [h3, Nat.mul_add_mod, h5]
    rw [hj]
    exact R.raw_ (hq w) _ u (by rw [Nat.min_eq_left (by omega)] at hu; exact hu)
   ·refine hG j u ?_
    rw [List.getElem?_append_right (by simp only [List.length_append, List.length_take]; omega), List.getElem?_drop] at hu
    rw [← Array.getElem?_toList]
    rw [show i * R.size + R.size + (j - (List.take (i * R.size) cur'.toList ++ es).length) = j from by simp only [List.length_append, List.length_take]; omega] at hu
    exact hu
 ·have hall2 : All2 (fun x a => R.own (w.setRow g (cur'.toList.take (i * R.size) ++ es ++ cur'.toList.drop (i * R.size + R.size)).toArray) B x.1 x.2 a) ps l := hall.imp fun y a hy hyo => R.okeep hyo fun q hq => (Mod.setRow w g _).block q (R.olt hyo q hq).2 (by simpa using hdiff y hy q hq)
  exact hall2.set_ (P := fun (x : List Nat × List Value) a => R.own _ B x.1 x.2 a) (by rw [hx0]; exact hp.1 (hq _))
end Rep
section
variable {P : Program} {n : Nat} {E E' : List (Nat × Value)} {a : Act} {w w' w0 w1 : World} {Q : Exit → Act → World → Prop} {ops : Array Oper} {v : Value}
variable {d : Option Nat} {ty : TypeId} {pos : String} {af : Array Edge} {g : Option (Nat × Bool)} {x y z : Operand} {t : TypeId} {rest : List Oper}
theorem soE {α : Type} {R : Rep α} {e by_ B i : Nat} {A : Option Addr} {c : Nat} {l : List α} {q' : α} {p : Addr} {es : List Value} (h : R.SOwn e by_ w B (Rep.blkOf A) A c l) (hR : R.Bare) (hi : i < l.length) (hx : ev E x = some (.pointer (some p))) (hp : p = ⟨bA A, oA A + i * R.size, none⟩) (hy : ev E y = some v) (hc : v.cells = es.toArray)
  (hq : ∀ w, R.has w es q') (hs : Sz P t es.length)
  (hk : ∀ w1, Mod (Rep.blkOf A) w w1 → R.SOwn e by_ w1 B (Rep.blkOf A) A c (l.set i q') → WL P n ops Q rest E w1) : WL P n ops Q (⟨none, .store t x y, ty, pos, af, none⟩ :: rest) E w := by
 obtain ⟨b, rfl⟩ := h.block (by omega)
 have hp' : p = ⟨b, i * R.size, none⟩ := by rw [hp]; simp [bA, oA]
 subst hp'
 obtain ⟨_, ps, _, _, ho, _⟩ := id h
 obtain ⟨cur, hcur, _, _⟩ := ho.cells_at
 obtain ⟨hset, hle⟩ := Rep.SOwn.setE (q' := q') h hR hi hq hcur
 have hst := run_storeVar (P := P) (w := w) (b := b) (p := i * R.size) (cur := cur.toList) (e := e) (by simpa [Blk] using hcur) hc hs (List.all_eq_true.2 (R.one (hq w))) hle
 refine us (fun n a ha => ?_) (hk _ (Mod.setRow w b _) hset)
 simp only [execOp, ha.ev hx, ha.ev hy, Instr.storeAt, Instr.sureAddr, Sem.run_bind, Sem.run_pure, Result.andThen_ok, hst]
def pfx (A : Option Addr) (_hi : Nat) : Option Addr := A
theorem sP {A : Option Addr} {len cap e s : Nat} {k : IntKind} (hi m : Nat) {i : Int} (ht : P.underlying t = some (.slice e)) (hs : Sz P e s) (hx : ev E x = some (.slice A len cap)) (hy : ev E y = some (.int k i)) (h1 : i = (hi : Int)) (h2 : hi ≤ cap) (hm : m = hi) : Runs P E ⟨d, .slice t x none (some y) none, ty, pos, af, g⟩ w (.slice (pfx A hi) m cap) w := fun n a ha => by
 subst h1; subst hm
 have h1 : P.underlying t = some (.slice (P.elem t)) := by simp [Program.elem, ht]
 have q2 : P.elem t = e := by simp [Program.elem, ht]
 have h3 := run_slice_h (P := P) (w := w) t A len cap h1 k (m : Int) (by omega) (by omega)
 have h4 := run_sliceAt_slice (P := P) (w := w) t (.slice A len cap) none (some (.int k (m : Int))) none h1
 rw [q2, hs w] at h3
 simp only [execOp, ha.ev hx, ha.ev hy, Option.map, h4, h3, Sem.run_bind, Result.andThen_ok, Sem.run_pure, sliced, Int.toNat_natCast, Nat.sub_zero]
 unfold pfx
 cases A with
 | none => simp
 | some a => simp [Addr.add]
end
theorem Rep.SHas.pre {α : Type} {R : Rep α} {by_ c : Nat} {A : Option Addr} {l : List α} {w : World} (h : R.SHas by_ w A c l) (k : Nat) : R.SHas by_ w (pfx A k) c (l.take k) := h.take_ k
end Go.Proofs.Ytokehopkfnipmaa
namespace Go.Proofs.Ytokehopkfnipmaa
open Go.RowKit
section
variable {P : Program} {n : Nat} {E : List (Nat × Value)} {w : World} {Q : Exit → Act → World → Prop} {ops : Array Oper} {kd : Nat → Nat}
def AQ2 (P : Program) (ops : Array Oper) (Q : Exit → Act → World → Prop) (kd : Nat → Nat) (τ1 τ2 : List Nat) : Exit → Act → World → Prop :=
 nrm (fun a w => wpFlow P ops (nrm (Q .normal)) kd τ1 a w ∧ wpFlow P ops (nrm (Q .normal)) kd τ2 a w)
end
end Go.Proofs.Ytokehopkfnipmaa
set_option linter.unusedVariables false
set_option linter.unusedSimpArgs false
namespace Go.Proofs.Ytokehopkfnipmaa
open Go.RowKit
def fen (ro : Option Nat) : Fence := { Fence.wide with round := ro }
section
variable {P : Program} {ro : Option Nat} {m : Nat} {ops : Array Oper} {Q : Exit → Act → World → Prop} {w : World}
theorem calls_fen {f : FuncId} {args : Array Value} {R : Ending → World → Prop} (h : Calls P f args w R) : CallsIn (fen ro) m P f args w R := (callsIn_wide (n := m)).2 h
theorem rows_fen {row : String} {args : Array Value} {R : Value → World → Prop} (h : Rows P row args w R) : RowsIn (fen ro) m P row args w R := fun c cs _ =>
 let ⟨v, w', r, s⟩ := h c cs; ⟨v, w', r, stepsIn_wide.2 s⟩
def noDefer (o : Oper) : Bool := match o.op with
 | .defer _ => false
 | _ => true
theorem op_in {o : Oper} {a : Act} {K : Act → World → Prop} (hd : noDefer o = true) (h : o.wp P a w K Q) : o.wpIn (fen ro) m P a w K Q := by
 refine ⟨fun _ _ => trivial, ?_⟩
 have hs : o.semAt (fen ro).round a.eval = execOp a.eval o := Oper.semAt_eq _ _ _ (fun c e => by simp [noDefer, e] at hd)
 rw [hs]
 unfold Oper.wp at h
 generalize (execOp a.eval o).run P w = r at *
 cases r with
 | ok x w' =>
  cases x <;> simp only [Oper.upon] at h <;> simp only [Oper.uponIn] <;>
   first
    | exact h
    | exact h.elim
    | exact ⟨fun h => by simp [fen, Fence.wide] at h, calls_fen h⟩
    | exact ⟨fun h => by simp [fen, Fence.wide] at h, rows_fen h⟩
 | halt x w' => cases x <;> simp only [Oper.upon] at h <;> simp only [Oper.uponIn] <;> first | exact h | exact h.elim
theorem list_in : ∀ (l : List Oper) {a : Act} {w : World}, l.all noDefer = true → wpList P ops Q l a w → (∀ c a w, ¬ Q (.panic c) a w) → ¬ LetsOut Q → wpListIn (fen ro) m P ops Q l a w
 | [], a, w, _, h, _, _ => by unfold wpList at h; unfold wpListIn; exact h
 | o :: rest, a, w, hd, h, hp, ho => by
  rw [List.all_cons, Bool.and_eq_true] at hd
  unfold wpList at h
  unfold wpListIn
  split at h
  ·rename_i hw
   rw [if_pos hw]
   rcases h with h | ⟨h, x⟩
   ·exact Oper.wpIn_mono (fun a w h => list_in rest hd.2 h hp ho) (op_in hd.1 h)
   ·exact (ho x).elim
  ·rename_i hw
   rw [if_neg hw]
   exact ⟨fun _ _ => trivial, list_in rest hd.2 h hp ho⟩
theorem wop_in {i : Nat} {K : Act → World → Prop} {a : Act} {w : World} (hd : ops.toList.all noDefer = true) (ho : ¬ LetsOut Q) (h : wpOp P ops Q i K a w) : wpOpIn (fen ro) m P ops Q i K a w := by
 unfold wpOp at h
 unfold wpOpIn
 split at h
 ·rename_i hi; simp only [hi]; exact h
 ·rename_i o hi
  simp only [hi]
  have hdo : noDefer o = true := List.all_eq_true.1 hd o (by rw [Array.mem_toList_iff]; exact Array.mem_of_getElem? hi)
  split at h
  ·rename_i hw
   rw [if_pos hw]
   rcases h with h | ⟨h, x⟩
   ·exact op_in hdo h
   ·exact (ho x).elim
  ·rename_i hw
   rw [if_neg hw]
   exact ⟨fun _ _ => trivial, h⟩
theorem any_in (hd : ops.toList.all noDefer = true) (ho : ¬ LetsOut Q) : ∀ (f : Nat) (l : Array Bool) {a : Act} {w : World}, wpAny P .any ops Q f l a w → wpAnyIn (fen ro) m P .any ops Q f l a w
 | 0, l, a, w, h => h
 | f + 1, l, a, w, h => ⟨h.1, fun i hi => wpOpIn_mono (fun a w h => any_in hd ho f _ h) (wop_in hd ho (h.2 i hi))⟩
end
theorem nrm_np {K : Act → World → Prop} : ∀ c a w, ¬ nrm K (.panic c) a w := fun _ _ _ h => h
theorem nrm_no {K : Act → World → Prop} : ¬ LetsOut (nrm K) := fun ⟨_, _, h⟩ => h
theorem nrm_mono {K : Exit → Act → World → Prop} : ∀ e a w, nrm (K .normal) e a w → K e a w := fun e a w h => by cases e <;> first | exact h | exact h.elim
namespace Rd
section
variable {P : Program} {ro : Option Nat} {m n : Nat} {ops : Array Oper} {Q : Exit → Act → World → Prop} {w w0 : World} {E E' : List (Nat × Value)} {id id' : Nat} {c : Operand} {x y : Code} {i j : Int} {τ : List Nat} {v : Value}
def W (ro : Option Nat) (m : Nat) (P : Program) (n : Nat) (c : Code) (Q : Exit → Act → World → Prop) (E : List (Nat × Value)) (w : World) : Prop := ∀ a, Agr n E a → c.wpIn (fen ro) m P Q a w
abbrev M (n : Nat) (Q : Exit → Act → World → Prop) (E : List (Nat × Value)) (w : World) : Prop := N n (nrm (Q .normal)) E w
abbrev Th (ro : Option Nat) (m : Nat) (P : Program) (y : Code) (Q : Exit → Act → World → Prop) : Exit → Act → World → Prop := Exit.then (fun a w => y.wpIn (fen ro) m P Q a w) Q
theorem sq (h : W ro m P n x (Th ro m P y Q) E w) : W ro m P n (.seq x y) Q E w := fun a ha => wpIn_seq (h a ha)
theorem sk (h : M n Q E w) : W ro m P n .skip Q E w := fun a ha => wpIn_skip (h a ha)
theorem rt (h : T n Q E w) : W ro m P n .ret Q E w := fun a ha => wpIn_ret (h a ha)
theorem xt (h : X n Q id E w) : W ro m P n (.exit id) Q E w := fun a ha => wpIn_exit (h a ha)
theorem bk (h : W ro m P n x (Exit.inBlock id Q) E w) : W ro m P n (.block id x) Q E w := fun a ha => wpIn_block (h a ha)
theorem rg {l : List Oper} (h : WL P n l.toArray (nrm (Q .normal)) l E w) (hd : l.all noDefer = true := by kernel_rfl) : W ro m P n (.region id l.toArray false) Q E w := fun a ha => Go.wpIn_mono (wpIn_region_lit (list_in l hd (h a ha) nrm_np nrm_no)) nrm_mono
theorem cT (hc : ev E c = some (.bool true)) (h : W ro m P n x Q E w) : W ro m P n (.cond c x y) Q E w := fun a ha => wpIn_cond_true (ha.ev hc) (h a ha)
theorem cF (hc : ev E c = some (.bool false)) (h : W ro m P n y Q E w) : W ro m P n (.cond c x y) Q E w := fun a ha => wpIn_cond_false (ha.ev hc) (h a ha)
theorem cb {b : Bool} (hc : ev E c = some (.bool b)) (h1 : b = true → W ro m P n x Q E w) (h2 : b = false → W ro m P n y Q E w) : W ro m P n (.cond c x y) Q E w :=
 fun a ha => wpIn_cond_split (ha.ev hc) (fun h => h1 h a ha) (fun h => h2 h a ha)
theorem clt (hc : ev E c = some (.bool (decide (i < j)))) (h1 : i < j → W ro m P n x Q E w) (h2 : ¬ i < j → W ro m P n y Q E w) : W ro m P n (.cond c x y) Q E w := cb hc (fun h => h1 (of_decide_eq_true h)) (fun h => h2 (of_decide_eq_false h))
theorem cle (hc : ev E c = some (.bool (decide (i ≤ j)))) (h1 : i ≤ j → W ro m P n x Q E w) (h2 : ¬ i ≤ j → W ro m P n y Q E w) : W ro m P n (.cond c x y) Q E w := cb hc (fun h => h1 (of_decide_eq_true h)) (fun h => h2 (of_decide_eq_false h))
theorem ceq (hc : ev E c = some (.bool (i == j))) (h1 : i = j → W ro m P n x Q E w) (h2 : ¬ i = j → W ro m P n y Q E w) : W ro m P n (.cond c x y) Q E w := cb hc (fun h => h1 (by simpa using h)) (fun h => h2 (by simpa using h))
theorem cne (hc : ev E c = some (.bool (i != j))) (h1 : ¬ i = j → W ro m P n x Q E w) (h2 : i = j → W ro m P n y Q E w) : W ro m P n (.cond c x y) Q E w := cb hc (fun h => h1 (by simpa using h)) (fun h => h2 (by simpa using h))
theorem nT (h : W ro m P n y Q E w) : M n (Th ro m P y Q) E w := h
theorem ne {fn : Func} {R : Ending → World → Prop} (h : T n (bodyPost P fn R) E w) : M n (bodyPost P fn R) E w := fun a ha => h a ha
theorem nB (h : M n Q E w) : M n (Exit.inBlock id Q) E w := h
theorem xT (h : X n Q id E w) : X n (Th ro m P y Q) id E w := h
theorem xB (h : M n Q E w) : X n (Exit.inBlock id Q) id E w := fun a ha => by simp only [Exit.inBlock, if_true]; exact h a ha
theorem tT (h : T n Q E w) : T n (Th ro m P y Q) E w := h
theorem lp {c : Code} (I : Nat → List (Nat × Value) → World → Prop) (k : Nat) (E' : List (Nat × Value)) (h0 : I k E' w) (hs : Sub E' E)
  (round : ∀ k E w, I k E w → W ro m P n c (Exit.then (LI n I k) Q) E w) : W ro m P n (.loop c) Q E w := fun a ha => by
 intro b kk cs hro hb hr
 have key : ∀ k a w, (∃ E, I k E w ∧ Agr n E a) → ∃ e a' w', Q e a' w' ∧ ArrivesIn (Machine.fenced P (fen ro)) P (lone (b.atR a (.code c :: .inLoop c :: kk)) cs w) b kk cs e a' w' := by
  intro k
  induction k using Nat.strongRecOn with
  | _ k ih =>
   intro a w ⟨E, hI, ha⟩
   obtain ⟨e, a1, w1, hq, harr⟩ := round k E w hI a ha b (.inLoop c :: kk) cs hro hb hr
   cases e with
   | normal =>
    obtain ⟨m', hlt, hI1⟩ := hq
    obtain ⟨e2, a2, w2, hq2, harr2⟩ := ih m' hlt a1 w1 hI1
    exact ⟨e2, a2, w2, hq2, .of_steps (StepsIn.trans harr (.one (fenced_calm hb hr rfl) stepR_inLoop)) harr2⟩
   | exit id => exact ⟨_, a1, w1, hq, .pass (x := .inLoop c) rfl (fun _ _ => .inl (by simp)) harr⟩
   | goto l => exact ⟨_, a1, w1, hq, .pass (x := .inLoop c) rfl (fun _ _ => .inl (by simp)) harr⟩
   | ret => exact ⟨_, a1, w1, hq, .pass (x := .inLoop c) rfl (fun _ _ => .inl (by simp)) harr⟩
   | panic ch => exact ⟨_, a1, w1, hq, .pass (x := .inLoop c) rfl (fun _ _ => .inl (by simp)) harr⟩
   | outgrown => exact ⟨_, a1, w1, hq, .pass (x := .inLoop c) rfl (fun _ _ => .inl (by simp)) harr⟩
 obtain ⟨e, a', w', hq, harr⟩ := key k a w ⟨E', h0, ha.sub hs⟩
 exact ⟨e, a', w', hq, .of_steps (.one (fenced_calm hb hr rfl) stepR_loop) harr⟩
theorem nI {I : Nat → List (Nat × Value) → World → Prop} {k : Nat} (k' : Nat) (E' : List (Nat × Value)) (h : I k' E' w) (hm : k' < k) (hs : Sub E' E) : M n (Exit.then (LI n I k) Q) E w :=
 fun a ha => ⟨k', hm, E', h, ha.sub hs⟩
theorem rd (ks : List (Nat × Nat)) (τ : List Nat) (hm : P.follows .mixedOrders = true) (hB : (Region.noSelect ops && (τ.length == ops.size) && flowB ops (kds ks) τ (Array.replicate ops.size false)) = true)
  (h : FL P n ops (nrm (Q .normal)) (kds ks) τ E w) (hd : ops.toList.all noDefer = true := by kernel_rfl) : W ro m P n (.region id ops true) Q E w := fun a ha => by
 simp only [Bool.and_eq_true, beq_iff_eq] at hB
 obtain ⟨⟨hs, hl⟩, hB⟩ := hB
 refine Go.wpIn_mono (wpIn_region_any hm (Q := nrm (Q .normal)) (any_in hd nrm_no _ _ ?_)) nrm_mono
 have := any_of_flow (P := P) hs (Q := nrm (Q .normal)) nrm_np τ (Array.replicate ops.size false) a w (by simp) hB (h a ha)
 rw [hl] at this
 exact any_of_F _ _ _ _ this _ (Below.refl _ w).drew
theorem agr0 {l : List Value} (hl : Nat.ble l.length n = true) : Agr n (argEnv 0 l) { tmps := l.toArray ++ Array.replicate (n - l.toArray.size) undef, defers := [] } := by
 refine ⟨rfl, ?_, fun t v hv => ?_⟩
 ·have := Nat.le_of_ble_eq_true hl
  simp only [Array.size_append, Array.size_replicate, List.size_toArray]; omega
 ·obtain ⟨j, e, hj⟩ := argEnv_look l 0 t v hv
  have hlt := (List.getElem?_eq_some_iff.1 hj).1
  rw [Array.getElem?_append_left (by simp; omega)]
  simpa [show t = j by omega] using hj
theorem calls_W {f : FuncId} {fn : Func} {c : Code} {l : List Value} {R : Ending → World → Prop} (hf : P.funcs[f]? = some fn) (hb : fn.body = some c) (hn : fn.ntmps = n) (hl : Nat.ble l.length n = true)
  (h : W none m P n c (bodyPostM (fen none) m P fn R) (argEnv 0 l) w) : Calls P f l.toArray w R := by
 have h1 : CallsIn (fen none) m P f l.toArray w R := callsIn_of_wp_marks hf hb trivial (by rw [hn]; exact h _ (agr0 hl)) rfl
 exact (callsIn_wide (n := m)).1 h1
theorem tR {fn : Func} {R : Ending → World → Prop} {vs : List Value} (h : Res P E w fn.results.toList vs) (hR : R (.returned (tup vs)) w) : T n (bodyPostM (fen none) m P fn R) E w :=
 fun a ha => by
  show LeavesInM _ _ _ _ _ _ a.defers _ _
  rw [ha.d]
  exact ⟨_, run_results h ha, hR⟩
end
end Rd
namespace Ri
section
variable {P : Program} {ro : Option Nat} {m n : Nat} {ops : Array Oper} {Q : Exit → Act → World → Prop} {w w' w0 : World} {E E' : List (Nat × Value)} {id : Nat} {v : Value}
variable {d : Option Nat} {ty : TypeId} {pos : String} {af : Array Edge} {g : Option (Nat × Bool)} {x y z : Operand} {t : TypeId} {rest : List Oper}
def WL (ro : Option Nat) (m : Nat) (P : Program) (n : Nat) (ops : Array Oper) (Q : Exit → Act → World → Prop) (l : List Oper) (E : List (Nat × Value)) (w : World) : Prop := ∀ a, Agr n E a → wpListIn (fen ro) m P ops Q l a w
theorem rg {l : List Oper} (h : WL ro m P n l.toArray Q l E w) : Rd.W ro m P n (.region id l.toArray false) Q E w := fun a ha => wpIn_region_lit (h a ha)
theorem nl (h : Rd.M n Q E w) : WL ro m P n ops Q [] E w := h
theorem vl {d : Nat} {op : Op} (hr : Runs P E ⟨some d, op, ty, pos, af, none⟩ w v w') (hd : Nat.blt d n = true) (h : WL ro m P n ops Q rest ((d, v) :: E) w') : WL ro m P n ops Q (⟨some d, op, ty, pos, af, none⟩ :: rest) E w := fun a ha => by
 have hrun := hr n a ha
 unfold wpListIn
 rw [if_pos (by simp [Region.wanted])]
 refine ⟨fun _ _ => trivial, ?_⟩
 have hs : (⟨some d, op, ty, pos, af, none⟩ : Oper).semAt (fen ro).round a.eval = execOp a.eval ⟨some d, op, ty, pos, af, none⟩ := Oper.semAt_eq _ _ _ (fun c e => by
  have e : op = .defer c := e
  subst e
  simp only [execOp, Sem.run_bind, Sem.run_pure] at hrun
  revert hrun
  generalize (resolve a.eval c ty).run P w = r
  cases r <;> simp [Result.andThen])
 rw [hs, hrun]
 exact h _ (ha.put hd v)
end
end Ri
def mark (D : Nat) : List Deferred := [{ target := .collected D, args := #[] }]
def wd (ds : List Deferred) (a : Act) : Act := { a with defers := ds }
theorem wd_put (ds : List Deferred) (a : Act) (d : Option Nat) (v : Value) : (wd ds a).put d v = wd ds (a.put d v) := by cases d <;> rfl
theorem wd_eval (ds : List Deferred) (a : Act) : (wd ds a).eval = a.eval := by funext x; cases x <;> rfl
def DMark (w : World) (D : Nat) : Prop := w.heap[D]? = some (.deferred (some []))
theorem DMark.lt {D : Nat} {w : World} (h : DMark w D) : D < w.heap.size := (Array.getElem?_eq_some_iff.1 h).1
theorem DMark.later {D : Nat} {w w' : World} (h : DMark w D) (x : Ext w w') : DMark w' D := (x.block D h.lt).trans h
theorem DMark.mod {D : Nat} {w w' : World} {S : List Nat} (h : DMark w D) (m : Mod S w w') (hs : D ∉ S) : DMark w' D := (m.block D h.lt hs).trans h
def unmark (w : World) (D : Nat) : World := w.putObj D (.deferred none)
namespace Rt
section
variable {P : Program} {ds : List Deferred} {m n : Nat} {ops : Array Oper} {Q : Exit → Act → World → Prop} {w w' w0 : World} {E E' : List (Nat × Value)} {id : Nat} {v : Value}
variable {d : Option Nat} {ty : TypeId} {pos : String} {af : Array Edge} {g : Option (Nat × Bool)} {x y z : Operand} {t : TypeId} {rest : List Oper} {c : Operand} {cx cy : Code} {i j : Int}
def W (ds : List Deferred) (m : Nat) (P : Program) (n : Nat) (c : Code) (Q : Exit → Act → World → Prop) (E : List (Nat × Value)) (w : World) : Prop := ∀ a, Agr n E a → c.wpIn (fen none) m P Q (wd ds a) w
def N (ds : List Deferred) (n : Nat) (Q : Exit → Act → World → Prop) (E : List (Nat × Value)) (w : World) : Prop := ∀ a, Agr n E a → Q .normal (wd ds a) w
def T (ds : List Deferred) (n : Nat) (Q : Exit → Act → World → Prop) (E : List (Nat × Value)) (w : World) : Prop := ∀ a, Agr n E a → Q .ret (wd ds a) w
def WL (ds : List Deferred) (m : Nat) (P : Program) (n : Nat) (ops : Array Oper) (Q : Exit → Act → World → Prop) (l : List Oper) (E : List (Nat × Value)) (w : World) : Prop := ∀ a, Agr n E a → wpListIn (fen none) m P ops Q l (wd ds a) w
theorem sq (h : W ds m P n cx (Rd.Th none m P cy Q) E w) : W ds m P n (.seq cx cy) Q E w := fun a ha => wpIn_seq (h a ha)
theorem sk (h : N ds n Q E w) : W ds m P n .skip Q E w := fun a ha => wpIn_skip (h a ha)
theorem rt (h : T ds n Q E w) : W ds m P n .ret Q E w := fun a ha => wpIn_ret (h a ha)
theorem rg {l : List Oper} (h : WL ds m P n l.toArray Q l E w) : W ds m P n (.region id l.toArray false) Q E w := fun a ha => wpIn_region_lit (h a ha)
theorem nl (h : N ds n Q E w) : WL ds m P n ops Q [] E w := h
theorem nT (h : W ds m P n cy Q E w) : N ds n (Rd.Th none m P cy Q) E w := h
theorem nB (h : N ds n Q E w) : N ds n (Exit.inBlock id Q) E w := h
theorem tT (h : T ds n Q E w) : T ds n (Rd.Th none m P cy Q) E w := h
theorem tB (h : T ds n Q E w) : T ds n (Exit.inBlock id Q) E w := h
theorem cT (hc : ev E c = some (.bool true)) (h : W ds m P n cx Q E w) : W ds m P n (.cond c cx cy) Q E w := fun a ha => wpIn_cond_true (by rw [wd_eval]; exact ha.ev hc) (h a ha)
theorem cF (hc : ev E c = some (.bool false)) (h : W ds m P n cy Q E w) : W ds m P n (.cond c cx cy) Q E w := fun a ha => wpIn_cond_false (by rw [wd_eval]; exact ha.ev hc) (h a ha)
theorem cb {b : Bool} (hc : ev E c = some (.bool b)) (h1 : b = true → W ds m P n cx Q E w) (h2 : b = false → W ds m P n cy Q E w) : W ds m P n (.cond c cx cy) Q E w :=
 fun a ha => wpIn_cond_split (by rw [wd_eval]; exact ha.ev hc) (fun h => h1 h a ha) (fun h => h2 h a ha)
theorem cne (hc : ev E c = some (.bool (i != j))) (h1 : ¬ i = j → W ds m P n cx Q E w) (h2 : i = j → W ds m P n cy Q E w) : W ds m P n (.cond c cx cy) Q E w := cb hc (fun h => h1 (by simpa using h)) (fun h => h2 (by simpa using h))
theorem ceq (hc : ev E c = some (.bool (i == j))) (h1 : i = j → W ds m P n cx Q E w) (h2 : ¬ i = j → W ds m P n cy Q E w) : W ds m P n (.cond c cx cy) Q E w := cb hc (fun h => h1 (by simpa using h)) (fun h => h2 (by simpa using h))
theorem nodef_of_value {o : Oper} {a : Act} {v : Value} (h : (execOp a.eval o).run P w = .ok (.value v) w') : ∀ c, o.op ≠ .defer c := fun c e => by
 unfold execOp at h
 rw [e] at h
 simp only [Sem.run_bind, Sem.run_pure] at h
 revert h
 generalize (resolve a.eval c o.type).run P w = r
 cases r <;> simp [Result.andThen]
theorem vl {d : Nat} {op : Op} (hr : Runs P E ⟨some d, op, ty, pos, af, none⟩ w v w') (hd : Nat.blt d n = true) (h : WL ds m P n ops Q rest ((d, v) :: E) w') : WL ds m P n ops Q (⟨some d, op, ty, pos, af, none⟩ :: rest) E w := fun a ha => by
 have hrun := hr n a ha
 unfold wpListIn
 rw [if_pos (by simp [Region.wanted])]
 refine ⟨fun _ _ => trivial, ?_⟩
 rw [wd_eval, Oper.semAt_eq _ _ _ (nodef_of_value hrun), hrun]
 show wpListIn _ _ _ _ _ _ _ _
 rw [wd_put]
 exact h _ (ha.put hd v)
theorem ca {d : Nat} {f : FuncId} (hf : Enters P f) {xs : Array Operand} {ts : Array TypeId} {args : List Value} (he : evs E xs.toList = some args) (hd : Nat.blt d n = true)
  (h : Calls P f args.toArray w fun e w' => ∃ v, e = .returned v ∧ WL ds m P n ops Q rest ((d, v) :: E) w') : WL ds m P n ops Q (⟨some d, .call { callee := .value (.func f), args := xs, argTypes := ts }, ty, pos, af, none⟩ :: rest) E w := fun a ha => by
 unfold wpListIn
 rw [if_pos (by simp [Region.wanted])]
 refine ⟨fun _ _ => trivial, ?_⟩
 rw [wd_eval, Oper.semAt_eq _ _ _ (fun c e => by cases e), run_call hf ha he]
 refine ⟨fun h => by simp [fen, Fence.wide] at h, CallsIn.mono (calls_fen h) fun e w' hh => ?_⟩
 obtain ⟨v, rfl, h⟩ := hh
 show wpListIn _ _ _ _ _ _ _ _
 rw [wd_put]
 exact h _ (ha.put hd v)
theorem tR {D : Nat} {fn : Func} {R : Ending → World → Prop} {vs : List Value} (hK : DMark w D) (h : Res P E (unmark w D) fn.results.toList vs) (hR : R (.returned (tup vs)) (unmark w D)) : T (mark D) n (bodyPostM (fen none) m P fn R) E w :=
 fun a ha => by
  have hr := run_results (a := a) h ha
  exact ⟨by simp, .inl ⟨D, _, rfl, run_takeDeferred hK, _, hr, hR⟩⟩
end
end Rt
def Keep2 (b c : Nat) (W W' : World) : Prop := W'.heap[b]? = W.heap[b]? ∧ W'.heap[c]? = W.heap[c]?
theorem Keep2.tr {b c : Nat} {X Y Z : World} (h : Keep2 b c X Y) (k : Keep2 b c Y Z) : Keep2 b c X Z := ⟨k.1.trans h.1, k.2.trans h.2⟩
theorem Mod.keepsFrom {S : List Nat} {W W' : World} {B : Nat} (h : Mod S W W') (hS : ∀ q ∈ S, q < W.heap.size → ∃ cur e fr, W.heap[q]? = some (.cells cur e fr)) : KeepsFrom B W W' :=
 ⟨h.size, fun k o _ hk ho => by
  by_cases hm : k ∈ S
  ·obtain ⟨cur, e, fr, hc⟩ := hS k hm (Array.getElem?_eq_some_iff.1 hk).1
   rw [hc] at hk
   injection hk with hk
   subst hk
   exact nomatch ho
  ·exact (h.block k (Array.getElem?_eq_some_iff.1 hk).1 hm).trans hk⟩
def KF (B : Nat) (w0 w : World) : Prop := KeepsFrom B w0 w
theorem KF.rf (B : Nat) (w : World) : KF B w w := KeepsFrom.refl B w
theorem KF.later {B : Nat} {w0 w w' : World} (h : KF B w0 w) (x : Ext w w') : KF B w0 w' := KeepsFrom.trans h ((Mod.of_ext (S := []) x).keepsFrom fun q hq => nomatch hq)
theorem KF.mod {B : Nat} {w0 w w' : World} {S : List Nat} (h : KF B w0 w) (m : Mod S w w') (hS : ∀ q ∈ S, ∃ cur e fr, w.heap[q]? = some (.cells cur e fr)) : KF B w0 w' := KeepsFrom.trans h (m.keepsFrom fun q hq _ => hS q hq)
structure JAt {α : Type} (B : Nat) (J : List α → World → Prop) (pre : List α) (w : World) : Prop where
 ab : AbidesFrom B J
 at_ : J pre w
theorem JAt.later {α : Type} {B : Nat} {J : List α → World → Prop} {pre : List α} {w w' : World} (h : JAt B J pre w) (x : Ext w w') : JAt B J pre w' :=
 ⟨h.ab, h.ab _ _ _ none h.at_ ⟨x.os, x.tape, x.output, x.size, fun k hk _ => x.block k hk⟩ fun r e => nomatch e⟩
section
variable {P : Program} {n : Nat} {E E' : List (Nat × Value)} {w : World} {d : Option Nat} {ty : TypeId} {pos : String} {af : Array Edge} {g : Option (Nat × Bool)} {x y z u : Operand} {t : TypeId}
end
namespace Rd
theorem rf {α : Type} {P : Program} {m n : Nat} {Q : Exit → Act → World → Prop} {w w0 : World} {E : List (Nat × Value)} {tt p : Nat} {ty : TypeId} {pos : String} {af : Array Edge} {id : Nat} {body : Code} {g : Operand} {gf : Nat} {lb : List Value} {enc : α → Value} {b2 b3 : Nat} {S Sp : List α → Prop} {N0 : Nat}
  (hg : ev E g = some (.func (.func gf) #[] lb.toArray)) (hf : Enters P gf) (hseq : SeqStopsK (fen none) (m - 1) P gf lb.toArray (fun x => #[enc x]) (Keep2 b2 b3) S Sp N0 w0) (hb2 : b2 < w.heap.size) (hb3 : b3 < w.heap.size) (hb0 : Ext w0 w) (h1 : 1 ≤ m) (hp : Nat.blt p n = true) (ht : Nat.blt tt n = true)
  (I : List α → World → Prop) (hI : ∀ s W W' S, I s W → Mod S W W' → (∀ q ∈ S, w.heap.size ≤ q ∧ ∀ cur e fr, W.heap[q]? ≠ some (.cells cur e fr)) → I s W') (h0 : I [] w)
  (hbody : ∀ (l : Nat) (pre : List α) (x : α) (W' : World), I pre W' → pre.length < N0 → W (some l) (m - 1 - 1) P n body (ownPostG w.heap.size (Keep2 b2 b3) I (fun _ _ _ => False) (pre ++ [x]) W') ((tt, enc x) :: (p, enc x) :: E) W')
  (hdone : ∀ (D : Nat) (xs : List α) (W' : World), w.heap.size ≤ D → S xs → I xs W' → DMark W' D → Rt.N (mark D) n Q E W') :
  W none m P n (.rangeFunc g #[p] (.region id #[⟨some tt, .assign (.tmp p), ty, pos, af, none⟩] false) body) Q E w := fun a ha => by
 have hOf : ∀ {β : Type} (J : β → World → Prop), (∀ s W W' S, J s W → Mod S W W' → (∀ q ∈ S, w.heap.size ≤ q ∧ ∀ cur e fr, W.heap[q]? ≠ some (.cells cur e fr)) → J s W') → OwnFrom w.heap.size J := fun J hJ s X Y row hs hgr hr =>
  hJ s X Y row.toList hs (Mod.grown hgr) fun q hq => by
   cases row with
   | none => exact nomatch hq
   | some r =>
    obtain rfl := List.mem_singleton.1 hq
    obtain ⟨hB, o, ho, hc⟩ := hr _ rfl
    exact ⟨hB, fun cur e fr h => by rw [h] at ho; injection ho with ho; subst ho; exact nomatch hc⟩
 obtain ⟨fn, hf1, hf2, hf3⟩ := hf
 obtain ⟨bc, hbc⟩ : ∃ c, fn.body = some c := by
  cases h : fn.body with
  | none => rw [h] at hf3; simp at hf3
  | some c => exact ⟨c, rfl⟩
 refine wpIn_rangeFunc_ownH (F := fen none) rfl h1 (gf := gf) (lb := lb.toArray) (ha.ev hg) trivial (enters_of hf1 hf2 hbc) hseq (fun h k => h.tr k) ?_ hb0 (fun x => rfl) I (fun _ _ _ => False) (hOf I hI) (fun c s A B row hs hg hr => hs.elim) h0
  (fun x a' _ => Agr n ((tt, enc x) :: (p, enc x) :: E) a') (fun x a' s A B row hs hg hr => hs) ?_ ?_ ?_ ?_
 ·intro W' l o o' hl hW _ _
  have hm := Mod.grown (grownBy_putObj' W' l o')
  exact ⟨hm.block b2 (by have := (Array.getElem?_eq_some_iff.1 hW).1; omega) (by simp; omega), hm.block b3 (by have := (Array.getElem?_eq_some_iff.1 hW).1; omega) (by simp; omega)⟩
 ·intro l pre x W' K hi hK
  have hA : Agr n ((p, enc x) :: E) { tmps := (#[p].zip #[enc x]).foldl (fun t (p, v) => t.setIfInBounds p v) a.tmps, defers := [] } := by
   have := ha.put hp (enc x)
   have e : ({ tmps := (#[p].zip #[enc x]).foldl (fun t (p, v) => t.setIfInBounds p v) a.tmps, defers := [] } : Act) = a.put (some p) (enc x) := by
    simp [Act.put, ha.d]
   rw [e]; exact this
  have h2 : W (some l) (m - 1 - 1) P n (.region id [(⟨some tt, .assign (.tmp p), ty, pos, af, none⟩ : Oper)].toArray false) (Exit.then K (fun _ _ _ => False)) ((p, enc x) :: E) W' := by
   refine Ri.rg (Ri.vl (v := enc x) (w' := W') (as_ ?_) ht (Ri.nl fun a' ha' => hK a' W' (KeepsFrom.refl _ _) ⟨rfl, rfl⟩ hi ha'))
   show look ((p, enc x) :: E) p = _
   simp [look]
  exact h2 _ hA
 ·intro l pre x a' W' _ _ hi hx hlen
  exact hbody l pre x W' hi hlen a' hx
 ·intro D xs W' hD hS hi hK
  have := hdone D xs W' hD hS hi hK a ha
  have e : ({ a with defers := { target := .collected D, args := #[] } :: a.defers } : Act) = wd (mark D) a := by simp [wd, mark, ha.d]
  rw [e]; exact this
 ·intro D c pre W' _ _ h _
  exact h.elim
end Rd
end Go.Proofs.Ytokehopkfnipmaa
set_option linter.unusedVariables false
set_option linter.unusedSimpArgs false
namespace Go.Proofs.Ytokehopkfnipmaa
open Go.RowKit

namespace Rep
variable {α : Type} {R : Rep α}
theorem SOwn.fsts {E by_ B c : Nat} {A : Option Addr} {l : List α} {w : World} {ps : List (List Nat × List Value)} (hp : R.Bare) (hall : All2 (fun x a => R.own w B x.1 x.2 a) ps l) : ∀ y ∈ ps, y.1 = [] := fun y hy => by
 obtain ⟨b, hb⟩ := hall.left y hy
 exact hp.2 hb
theorem fst_flat {ps : List (List Nat × List Value)} (h : ∀ y ∈ ps, y.1 = []) : (ps.map (·.1)).flatten = [] := by
 rw [List.flatten_eq_nil_iff]
 intro x hx
 obtain ⟨y, hy, rfl⟩ := List.mem_map.1 hx
 exact h y hy
theorem SOwn.cut {E by_ B c : Nat} {A : Option Addr} {l : List α} {w : World} (h : R.SOwn E by_ w B (blkOf A) A c l) (hp : R.Bare) (k : Nat) (hk : k ≤ l.length) : R.SOwn E by_ w B (blkOf A) A c (l.take k) := by
 obtain ⟨hb, ps, hf, hn, ho, hall⟩ := h
 have hl := olens hall
 have hpl : ps.length = l.length := hall.length
 have h1 := SOwn.fsts (E := E) (by_ := by_) (c := c) (A := A) hp hall
 have hlen : (l.take k).length = k := by rw [List.length_take]; omega
 have hm := Nat.mul_le_mul_right by_ hk
 refine ⟨by rw [hlen]; omega, ps.take k, ?_, hn, ?_, hall.take_ k⟩
 ·rw [fst_flat fun y hy => h1 y (List.mem_of_mem_take hy), List.append_nil]
 ·rw [hlen, List.map_take, flatten_take k hl]
  obtain ⟨hx1, hx2⟩ := ho
  have hle : k * R.size ≤ l.length * R.size := Nat.mul_le_mul_right _ hk
  refine ⟨by rw [List.length_take, hx1]; omega, ?_⟩
  rcases hx2 with ⟨hx2, hx3⟩ | ⟨g, cap, cur, hv, hB, hh, hnc, hcm, hs, ht, hG⟩
  ·injection hx2 with e1 e2 e3
   subst e1 e3
   have : k = 0 := by omega
   subst this
   exact .inl ⟨rfl, rfl⟩
  ·injection hv with e1 e2 e3
   subst e1 e3
   exact .inr ⟨g, c, cur, rfl, hB, hh, by omega, hcm, hs, by rw [← ht, List.take_take, Nat.min_eq_left hle], hG⟩
theorem Own.setCells_at {base e size n g c : Nat} {G : Nat → Value → Prop} {xs : List Value} : ∀ (zs : List Value) (o : Nat) (w : World), n * size ≤ o → Own w base e size G (.slice (some ⟨g, 0, none⟩) n c) n xs → (∀ (j : Nat) u, zs[j]? = some u → G ((o + j) % size) u) →
  Own (w.setCells g o zs) base e size G (.slice (some ⟨g, 0, none⟩) n c) n xs
 | [], _, _, _, h, _ => h
 | v :: r, o, w, ho, h, hG => by
  rw [World.setCells]
  have h1 := h.stored o v (hG 0 v rfl)
  rw [List.set_eq_of_length_le (by rw [h.1]; exact ho)] at h1
  refine Own.setCells_at r (o + 1) _ (by omega) h1 fun j u hu => ?_
  have := hG (j + 1) u hu
  rwa [show o + 1 + j = o + (j + 1) from by omega]
theorem Mod.setCells (g : Nat) : ∀ (zs : List Value) (o : Nat) (w : World), Mod [g] w (w.setCells g o zs)
 | [], _, w => Mod.of_ext (Ext.rf w)
 | v :: r, o, w => by
  rw [World.setCells]
  exact (Mod.setCell w ⟨g, o, none⟩ v).trans (Mod.setCells g r (o + 1) _)
theorem SOwn.setTail {E by_ B c g : Nat} {l : List α} {w : World} (h : R.SOwn E by_ w B (blkOf (some ⟨g, 0, none⟩)) (some ⟨g, 0, none⟩) c l) (hp : R.Bare) (k : Nat) (hk : k ≤ l.length) (zs : List Value) (hz : ∀ (j : Nat) u, zs[j]? = some u → R.raw (j % R.size) u) :
  R.SOwn E by_ (w.setCells g (k * R.size) zs) B (blkOf (some ⟨g, 0, none⟩)) (some ⟨g, 0, none⟩) c (l.take k) := by
 obtain ⟨hb, ps, hf, hn, ho, hall⟩ := h.cut hp k hk
 have h1 := SOwn.fsts (E := E) (by_ := by_) (c := c) (A := some ⟨g, 0, none⟩) hp hall
 have hlen : (l.take k).length = k := by rw [List.length_take]; omega
 refine ⟨hb, ps, hf, hn, ?_, hall.imp fun y a hy hyo => R.okeep hyo fun q hq => ?_⟩
 ·refine Own.setCells_at zs _ w (by rw [hlen]; exact Nat.le_refl _) ho fun j u hu => ?_
  rw [Nat.mul_comm, Nat.mul_add_mod]
  exact hz j u hu
 ·rw [h1 y hy] at hq; simp at hq
end Rep
section
variable {P : Program} {n : Nat} {E E' : List (Nat × Value)} {a : Act} {w w' w0 w1 : World} {Q : Exit → Act → World → Prop} {ops : Array Oper} {v : Value}
variable {d : Option Nat} {ty : TypeId} {pos : String} {af : Array Edge} {g : Option (Nat × Bool)} {x y z : Operand} {t : TypeId} {rest : List Oper}
theorem zeroCells_get {zs : Array Value} {m j : Nat} {u : Value} (hu : (Builtin.zeroCells zs m).toList[j]? = some u) : ∃ i : Nat, i = j % zs.size ∧ (0 < zs.size → zs[i]? = some u) := by
 rw [Array.getElem?_toList] at hu
 obtain ⟨h, hv⟩ := Array.getElem?_eq_some_iff.1 hu
 simp only [Builtin.zeroCells, Array.getElem_map, Array.getElem_range] at hv
 refine ⟨_, rfl, fun h0 => ?_⟩
 have hr : j % zs.size < zs.size := Nat.mod_lt _ h0
 rw [Array.getElem?_eq_getElem hr, ← hv]
 rw [getElem!_pos zs (j % zs.size) hr]
theorem sT {A : Option Addr} {len cap e s : Nat} {k : IntKind} (lo : Nat) {i : Int} (ht : P.underlying t = some (.slice e)) (hs : Sz P e s) (hx : ev E x = some (.slice A len cap)) (hy : ev E y = some (.int k i)) (hi : i = (lo : Int)) (h1 : lo ≤ len) :
  Runs P E ⟨d, .slice t x (some y) none none, ty, pos, af, g⟩ w (.slice (sA A cap lo s) (len - lo) (cap - lo)) w := fun n a ha => by
 subst hi
 have q1 : P.underlying t = some (.slice (P.elem t)) := by simp [Program.elem, ht]
 have q2 : P.elem t = e := by simp [Program.elem, ht]
 have h3 := run_slice_l (P := P) (w := w) t A len cap q1 k (lo : Int) (by omega) (by omega)
 have h4 := run_sliceAt_slice (P := P) (w := w) t (.slice A len cap) (some (.int k (lo : Int))) none none q1
 rw [q2, hs w] at h3
 simp only [execOp, ha.ev hx, ha.ev hy, Option.map, h4, h3, Sem.run_bind, Result.andThen_ok, Sem.run_pure, sliced, Int.toNat_natCast, sA]
theorem uv {op : Op} (hr : Runs P E ⟨none, op, ty, pos, af, none⟩ w v w') (h : WL P n ops Q rest E w') : WL P n ops Q (⟨none, op, ty, pos, af, none⟩ :: rest) E w := fun a ha => by
 refine WL_one rfl ?_
 unfold Oper.wp
 rw [hr n a ha]
 exact h _ ha
theorem run_clear_own {α : Type} {R : Rep α} {e by_ B c k q g m : Nat} {l : List α} {z : Value} (ht : P.underlying t = some (.slice e)) (hi : (P.info? e).map (fun i => (i.zero, i.size, i.bytes)) = some (some z, m, by_)) (hm : R.size = m) (h0 : 0 < m) (hz : z.cells.size = m) (hz1 : z.cells.toList.all (·.oneCell') = true)
  (hr : ∀ (j : Nat) u, z.cells[j]? = some u → R.raw j u) (h : R.SOwn e by_ w B (Rep.blkOf (some ⟨g, 0, none⟩)) (some ⟨g, 0, none⟩) c l) (hR : R.Bare) (hk : k ≤ l.length) (hq : 0 < q) (hkq : k + q ≤ c) :
  ∃ w1, Mod [g] w w1 ∧ R.SOwn e by_ w1 B (Rep.blkOf (some ⟨g, 0, none⟩)) (some ⟨g, 0, none⟩) c (l.take k) ∧ (Builtin.clear_ #[t] ty #[.slice (some ⟨g, k * m, none⟩) q (c - k)]).run P w = .ok (.tuple #[]) w1 := by
 subst hm
 have hlen : (Builtin.zeroCells z.cells q).toList.length = q * R.size := by rw [Array.length_toList]; simp [Builtin.zeroCells, hz]
 obtain ⟨hle, ps, hf, hn, ho, hall⟩ := id h
 have hin : ∀ j, j < q * R.size → k * R.size + j < c * R.size := fun j hj => by
  have e1 : k * R.size + q * R.size = (k + q) * R.size := by rw [← Nat.add_mul]
  have e2 := Nat.mul_le_mul_right R.size hkq
  omega
 have hz3 : ∀ (j : Nat) u, (Builtin.zeroCells z.cells q).toList[j]? = some u → u.oneCell' = true ∧ R.raw (j % R.size) u := fun j u hu => by
  obtain ⟨i, hi, hg⟩ := zeroCells_get hu
  have hg := hg (by omega)
  rw [hz] at hi; subst hi
  refine ⟨?_, hr _ u hg⟩
  have := List.all_eq_true.1 hz1 u (by rw [Array.mem_toList_iff]; exact Array.mem_of_getElem? hg)
  exact this
 have hst := run_storeCells_cells (P := P) g (k * R.size) (Builtin.zeroCells z.cells q).toList 0 w (fun j hj => by
   rw [hlen] at hj
   obtain ⟨u, hu, _⟩ := ho.some_ (k * R.size + 0 + j) (hin j hj)
   rw [hu]; rfl) (fun j _ => ho.free _) (fun v hv => by
   obtain ⟨j, hj⟩ := List.mem_iff_getElem?.1 hv
   exact (hz3 j v hj).1)
 rw [Nat.add_zero] at hst
 refine ⟨_, Rep.Mod.setCells g _ _ w, h.setTail hR k (by omega) _ (fun j u hu => (hz3 j u hu).2), ?_⟩
 have hzv : ∀ w, (zeroValue e).run P w = .ok z w := fun w => by
  cases hq : P.info? e with
  | none => rw [hq] at hi; cases hi
  | some i =>
   rw [hq] at hi
   simp only [Option.map_some, Option.some.injEq, Prod.mk.injEq] at hi
   simp [zeroValue, typeInfo, hq, hi.1]
 obtain ⟨p, rfl⟩ : ∃ p, q = p + 1 := ⟨q - 1, by omega⟩
 simp [Builtin.clear_, run_underlying ht, hzv, hst]
theorem cl {α : Type} {R : Rep α} {e by_ B c k q m : Nat} {A : Option Addr} {l : List α} {z : Value} (ht : P.underlying t = some (.slice e)) (hi : (P.info? e).map (fun i => (i.zero, i.size, i.bytes)) = some (some z, m, by_)) (hm : R.size = m) (h0 : 0 < m) (hz : z.cells.size = m) (hz1 : z.cells.toList.all (·.oneCell') = true)
  (hr : ∀ (j : Nat) u, z.cells[j]? = some u → R.raw j u) (h : R.SOwn e by_ w B (Rep.blkOf A) A c l) (hR : R.Bare) (hk : k ≤ l.length) (hq : 0 < q) (hkq : k + q ≤ c) (hA : ∃ b, A = some ⟨b, 0, none⟩) (hx : ev E x = some (.slice (sA A c k m) q (c - k)))
  (hK : ∀ w1, Mod (Rep.blkOf A) w w1 → R.SOwn e by_ w1 B (Rep.blkOf A) A c (l.take k) → WL P n ops Q rest E w1) :
  WL P n ops Q (⟨none, .call { callee := .builtin .clear, args := #[x], argTypes := #[t] }, ty, pos, af, none⟩ :: rest) E w := by
 obtain ⟨b, rfl⟩ := hA
 obtain ⟨w1, hmod, hS, hrun⟩ := run_clear_own (ty := ty) ht hi hm h0 hz hz1 hr h hR hk hq hkq
 have hsA : sA (some ⟨b, 0, none⟩) c k m = some ⟨b, k * m, none⟩ := by
  unfold sA; rw [if_neg (by omega)]; simp [Addr.add]; try omega
 rw [hsA] at hx
 refine uv (v := .tuple #[]) (w' := w1) (bi (vs := [.slice (some ⟨b, k * m, none⟩) q (c - k)]) (by simp only [evs, hx]) fun cs => ?_) (hK w1 hmod hS)
 simp only [builtin, Sem.run_bind, hrun, Result.andThen_ok, Sem.run_pure]
section
variable {k : IntKind} {i j : Int} {u : TypeId}
end
end
end Go.Proofs.Ytokehopkfnipmaa
set_option linter.unusedVariables false
set_option linter.unusedSimpArgs false
namespace Go.Proofs.Ytokehopkfnipmaa
open Go.RowKit

section
variable {α : Type} {p : α → Bool} {l L : List α} {d : α} {i j k : Nat}
theorem mem_dd (h : k < l.length) : l.getD k d ∈ l := by rw [List.getD_eq_getElem?_getD, List.getElem?_eq_getElem h]; exact List.getElem_mem h
theorem getD_dd (h : k < l.length) : l.getD k d = l[k] := by rw [List.getD_eq_getElem?_getD, List.getElem?_eq_getElem h]; rfl
theorem idx_none_dd (h : ∀ i, i < l.length → p (l.getD i d) = false) : idxI p l = -1 := idxI_none fun j hj => by rw [← getD_dd (d := d) hj]; exact h j hj
theorem idx_some_dd (hk : k < l.length) (h1 : p (l.getD k d) = true) (h : ∀ i, i < k → p (l.getD i d) = false) : idxI p l = (k : Int) :=
 idxI_some hk (by rw [← getD_dd (d := d) hk]; exact h1) fun j hj => by rw [← getD_dd (d := d) (by omega : j < l.length)]; exact h j hj
theorem take_succ_dd (h : k < l.length) : l.take (k + 1) = l.take k ++ [l.getD k d] := by rw [List.take_succ_eq_append_getElem h, getD_dd h]
end
end Go.Proofs.Ytokehopkfnipmaa
set_option linter.unusedVariables false
set_option linter.unusedSimpArgs false
namespace Go.Proofs.Ytokehopkfnipmaa
open Go.RowKit

theorem LinG_fd_api_Cell_0 : Fd Try.prog 70 0 0 := fun _ _ _ => by kernel_rfl
theorem LinG_ag_int : Ag Try.prog 3 false := fun _ => by kernel_rfl
theorem LinG_fd_api_Cell_1 : Fd Try.prog 70 1 1 := fun _ _ _ => by kernel_rfl
theorem LinG_ag_api_Cell : Ag Try.prog 70 true := fun _ => by kernel_rfl
theorem LinG_sz_api_Cell : Sz Try.prog 70 2 := fun _ => by kernel_rfl
theorem LinG_en_line_near : Enters Try.prog 167 := en Try.func167 (by kernel_rfl) (by kernel_rfl)
theorem LinG_en_line_sign : Enters Try.prog 168 := en Try.func168 (by kernel_rfl) (by kernel_rfl)
theorem LinG_sz_int : Sz Try.prog 3 1 := fun _ => by kernel_rfl
theorem LinG_el_S_api_Cell : ElT Try.prog Cel.rep 55 70 16 := ElT.mk_ (z := Cel.zero) (k := 2) Try.underlying55 Cel.info rfl rfl (by decide) Cel.zero_raw
def sgn (n : Int) : Int := if n < 0 then -1 else if 0 < n then 1 else 0
def sz (n : Int) : Int := if n < 0 then -n else if 0 < n then n else 0
theorem sz_bd (n : Int) : 0 ≤ sz n ∧ (-2000 ≤ n ∧ n ≤ 2000 → sz n ≤ 2000) ∧ (0 ≤ n → sz n = n) ∧ (n < 0 → sz n = -n) := by unfold sz; split <;> (try split) <;> omega
theorem sgn_bd (n : Int) : -1 ≤ sgn n ∧ sgn n ≤ 1 := by unfold sgn; split <;> (try split) <;> omega
def far (a b : Cel) : Int := max (sz (b.x - a.x)) (sz (b.y - a.y))
def nar (a b : Cel) : Int := min (sz (b.x - a.x)) (sz (b.y - a.y))
def lstep (a b : Cel) (s : Int × Cel) : Int × Cel :=
  (if decide (far a b ≤ s.1 + 2 * nar a b) then s.1 + 2 * nar a b - 2 * far a b else s.1 + 2 * nar a b,
   ⟨if !decide (sz (b.x - a.x) < sz (b.y - a.y)) || decide (far a b ≤ s.1 + 2 * nar a b) then s.2.x + sgn (b.x - a.x) else s.2.x,
    if decide (sz (b.x - a.x) < sz (b.y - a.y)) || decide (far a b ≤ s.1 + 2 * nar a b) then s.2.y + sgn (b.y - a.y) else s.2.y⟩)
def lst (a b : Cel) : Nat → Int × Cel
  | 0 => (0, a)
  | k + 1 => lstep a b (lst a b k)
def pts (a b : Cel) (k : Nat) : List Cel := (List.range (k + 1)).map fun i => (lst a b i).2
def lineC (a b : Cel) : List Cel := pts a b (far a b).toNat
theorem pts_succ (a b : Cel) (k : Nat) : pts a b (k + 1) = pts a b k ++ [(lst a b (k + 1)).2] := by unfold pts; rw [List.range_succ, List.map_append]; rfl
theorem pts_len (a b : Cel) (k : Nat) : (pts a b k).length = k + 1 := by simp [pts]
theorem far_bd (a b : Cel) : 0 ≤ nar a b ∧ nar a b ≤ far a b := by
  have h1 := sz_bd (b.x - a.x); have h2 := sz_bd (b.y - a.y)
  unfold nar far; omega
theorem lst_bd (a b : Cel) (k : Nat) : -far a b ≤ (lst a b k).1 ∧ (lst a b k).1 ≤ far a b := by
  have hf := far_bd a b
  induction k with
  | zero => show -far a b ≤ 0 ∧ 0 ≤ far a b; omega
  | succ k ih =>
    show -far a b ≤ (lstep a b (lst a b k)).1 ∧ (lstep a b (lst a b k)).1 ≤ far a b
    unfold lstep
    simp only [decide_eq_true_eq]
    split <;> omega
theorem lst_pos (a b : Cel) (k : Nat) : a.x - k ≤ (lst a b k).2.x ∧ (lst a b k).2.x ≤ a.x + k ∧ a.y - k ≤ (lst a b k).2.y ∧ (lst a b k).2.y ≤ a.y + k := by
  have h1 := sgn_bd (b.x - a.x); have h2 := sgn_bd (b.y - a.y)
  induction k with
  | zero => show a.x - _ ≤ a.x ∧ a.x ≤ a.x + _ ∧ a.y - _ ≤ a.y ∧ a.y ≤ a.y + _; omega
  | succ k ih =>
    show a.x - _ ≤ (lstep a b (lst a b k)).2.x ∧ (lstep a b (lst a b k)).2.x ≤ a.x + _ ∧ a.y - _ ≤ (lstep a b (lst a b k)).2.y ∧ (lstep a b (lst a b k)).2.y ≤ a.y + _
    unfold lstep
    simp only
    split <;> split <;> omega
set_option maxRecDepth 100000 in
set_option maxHeartbeats 400000 in
theorem near_in (c : Cel) (w : World) (h : -1000 ≤ c.x ∧ c.x ≤ 1000 ∧ -1000 ≤ c.y ∧ c.y ≤ 1000) :
    Calls Try.prog 167 #[.agg #[.int .i64 c.x, .int .i64 c.y]] w (fun e w' => e = .returned (.bool true) ∧ Ext w w') := by
  refine calls_W (n := 23) Try.func167 rfl rfl rfl ?_
  refine sq <| rg <| bx rfl rfl rfl rfl fun w_1 b_2 x_3 l_4 B_5 => ?_
  have q_6 := x_3.size
  have z_1 := Ext.tr (Ext.rf w) x_3
  have q_7 := B_5.lt
  refine vl (as_ rfl) rfl <| nl <| nT <| sq <| rg <| vl (fa LinG_fd_api_Cell_0 rfl) rfl <| vl (ld rfl (B_5.one LinG_ag_int rfl)) rfl <| vl (fa LinG_fd_api_Cell_0 rfl) rfl <| vl (ld rfl (B_5.one LinG_ag_int rfl)) rfl <| vl (ng rfl (inI (by omega))) rfl <| vl (fa LinG_fd_api_Cell_1 rfl) rfl <| vl (ld rfl (B_5.one LinG_ag_int rfl)) rfl <| vl (fa LinG_fd_api_Cell_1 rfl) rfl <| vl (ld rfl (B_5.one LinG_ag_int rfl)) rfl <| vl (ng rfl (inI (by omega))) rfl <| vl (mX rfl rfl rfl rfl) rfl <| vl (ble rfl rfl) rfl <| vl (mv rfl) rfl <| vQ rfl rfl rfl rfl (fun hc => fa LinG_fd_api_Cell_0 rfl) rfl <| vQ rfl rfl rfl rfl (fun hc => ld (gt hc rfl) (B_5.one LinG_ag_int rfl)) rfl <| vQ rfl rfl rfl rfl (fun hc => fa LinG_fd_api_Cell_1 rfl) rfl <| vQ rfl rfl rfl rfl (fun hc => ld (gt hc rfl) (B_5.one LinG_ag_int rfl)) rfl <| vQ rfl rfl rfl rfl (fun hc => mn (gt hc rfl) (gt hc rfl)) rfl <| vQ rfl rfl rfl rfl (fun hc => bge (gt hc rfl) rfl) rfl <| ?_
  refine vl (pA rfl rfl rfl rfl) rfl <| vl (as_ rfl) rfl <| nl <| nT <| rt <| tR (.tmp rfl .nil) <| ?_
  exact ⟨ret_true (by simp only [Bool.and_eq_true, decide_eq_true_eq]; omega), z_1⟩
set_option maxRecDepth 100000 in
set_option maxHeartbeats 400000 in
theorem sign_in (n : Int) (w : World) (h : -2000 ≤ n ∧ n ≤ 2000) :
    Calls Try.prog 168 #[.int .i64 n] w (fun e w' => e = .returned (.tuple #[.int .i64 (sgn n), .int .i64 (sz n)]) ∧ Ext w w') := by
  refine calls_W (n := 13) Try.func168 rfl rfl rfl ?_
  refine sq <| rg <| vl (as_ rfl) rfl <| vl (as_ rfl) rfl <| nl <| nT <| sq <| bk <| sq <| rg <| vl (mv rfl) rfl <| vl (blt rfl rfl) rfl <| vl (as_ rfl) rfl <| nl <| nT <| ?_
  refine clt rfl (fun h_1 => ?_) (fun h_1 => ?_)
  · refine sq <| rg <| vl (mv rfl) rfl <| vl (ng rfl (inI (by omega))) rfl <| vl (as_ rfl) rfl <| vl (as_ rfl) rfl <| nl <| nT <| rt <| tB <| tT <| tR (.tmp rfl (.tmp rfl .nil)) <| ?_
    exact ⟨by unfold sgn sz; simp only [*, if_true, if_false]; try rfl, (Ext.rf w)⟩
  · refine sq <| rg <| vl (mv rfl) rfl <| vl (bgt rfl rfl) rfl <| vl (as_ rfl) rfl <| nl <| nT <| ?_
    refine clt rfl (fun h_2 => ?_) (fun h_2 => ?_)
    · refine sq <| rg <| vl (mv rfl) rfl <| vl (as_ rfl) rfl <| vl (as_ rfl) rfl <| nl <| nT <| rt <| tB <| tT <| tR (.tmp rfl (.tmp rfl .nil)) <| ?_
      exact ⟨by unfold sgn sz; simp only [*, if_true, if_false]; try rfl, (Ext.rf w)⟩
    · refine sk <| nB <| nT <| sq <| rg <| vl (as_ rfl) rfl <| vl (as_ rfl) rfl <| nl <| nT <| rt <| tR (.tmp rfl (.tmp rfl .nil)) <| ?_
      exact ⟨by unfold sgn sz; simp only [*, if_true, if_false]; try rfl, (Ext.rf w)⟩
set_option maxRecDepth 100000 in
set_option maxHeartbeats 400000 in
theorem apart_in (a b : Cel) (w : World) (h : -1000 ≤ a.x ∧ a.x ≤ 1000 ∧ -1000 ≤ a.y ∧ a.y ≤ 1000) (h2 : -1000 ≤ b.x ∧ b.x ≤ 1000 ∧ -1000 ≤ b.y ∧ b.y ≤ 1000) :
    Calls Try.prog 154 #[.agg #[.int .i64 a.x, .int .i64 a.y], .agg #[.int .i64 b.x, .int .i64 b.y]] w (fun e w' => e = .returned (.tuple #[.int .i64 (far a b), .int .i64 (sz (b.x - a.x) + sz (b.y - a.y)), .int .i64 0]) ∧ Ext w w') := by
  refine calls_W (n := 43) Try.func154 rfl rfl rfl ?_
  refine sq <| rg <| bx rfl rfl rfl rfl fun w_1 b_2 x_3 l_4 B_5 => ?_
  have q_6 := x_3.size
  have z_1 := Ext.tr (Ext.rf w) x_3
  have q_7 := B_5.lt
  refine bx rfl rfl rfl rfl fun w_8 b_9 x_10 l_11 B_12 => ?_
  have q_13 := x_10.size
  have z_8 := Ext.tr z_1 x_10
  have q_14 := B_12.lt
  refine vl (as_ rfl) rfl <| vl (as_ rfl) rfl <| vl (as_ rfl) rfl <| nl <| nT <| sq <| sq <| rg <| ?_
  have B_5 := B_5.later x_10
  refine vl (ld rfl (B_5.all LinG_ag_api_Cell LinG_sz_api_Cell)) rfl <| ca LinG_en_line_near rfl rfl ((near_in a _ (by omega)).mono ?_)
  rintro e w_15 ⟨rfl, x_16⟩
  refine ⟨_, rfl, ?_⟩
  have q_17 := x_16.size
  have z_15 := Ext.tr z_8 x_16
  refine vl (nt rfl) rfl <| vl (mv rfl) rfl <| ug rfl rfl rfl <| ?_
  have B_12 := B_12.later x_16
  refine vl (ld rfl (B_12.all LinG_ag_api_Cell LinG_sz_api_Cell)) rfl <| ug rfl rfl rfl <| ca LinG_en_line_near rfl rfl ((near_in b _ (by omega)).mono ?_)
  rintro e w_18 ⟨rfl, x_19⟩
  refine ⟨_, rfl, ?_⟩
  have q_20 := x_19.size
  have z_18 := Ext.tr z_15 x_19
  refine ug rfl rfl rfl <| vl (nt rfl) rfl <| vl (pkF rfl rfl) rfl <| nl <| nT <| cF rfl <| sk <| nT <| sq <| rg <| vl (fa LinG_fd_api_Cell_0 rfl) rfl <| ?_
  have B_12 := B_12.later x_19
  refine vl (ld rfl (B_12.one LinG_ag_int rfl)) rfl <| vl (fa LinG_fd_api_Cell_0 rfl) rfl <| ?_
  have B_5 := B_5.later (Ext.tr x_16 x_19)
  refine vl (ld rfl (B_5.one LinG_ag_int rfl)) rfl <| vl (bsu rfl rfl (inI (by have := sz_bd (b.x - a.x); have := sz_bd (b.y - a.y); omega))) rfl <| ca LinG_en_line_sign rfl rfl ((sign_in (b.x - a.x) _ (by omega)).mono ?_)
  rintro e w_21 ⟨rfl, x_22⟩
  refine ⟨_, rfl, ?_⟩
  have q_23 := x_22.size
  have z_21 := Ext.tr z_18 x_22
  refine vl (mv rfl) rfl <| vl (ex rfl rfl) rfl <| vl (ex rfl rfl) rfl <| vl (as_ rfl) rfl <| vl (as_ rfl) rfl <| nl <| nT <| sq <| rg <| vl (fa LinG_fd_api_Cell_1 rfl) rfl <| ?_
  have B_12 := B_12.later x_22
  refine vl (ld rfl (B_12.one LinG_ag_int rfl)) rfl <| vl (fa LinG_fd_api_Cell_1 rfl) rfl <| ?_
  have B_5 := B_5.later x_22
  refine vl (ld rfl (B_5.one LinG_ag_int rfl)) rfl <| vl (bsu rfl rfl (inI (by have := sz_bd (b.x - a.x); have := sz_bd (b.y - a.y); omega))) rfl <| ca LinG_en_line_sign rfl rfl ((sign_in (b.y - a.y) _ (by omega)).mono ?_)
  rintro e w_24 ⟨rfl, x_25⟩
  refine ⟨_, rfl, ?_⟩
  have q_26 := x_25.size
  have z_24 := Ext.tr z_21 x_25
  refine vl (mv rfl) rfl <| vl (ex rfl rfl) rfl <| vl (ex rfl rfl) rfl <| vl (as_ rfl) rfl <| vl (as_ rfl) rfl <| nl <| nT <| sq <| rg <| vl (mv rfl) rfl <| vl (mv rfl) rfl <| vl (mx rfl rfl) rfl <| vl (mv rfl) rfl <| vl (mv rfl) rfl <| vl (bad rfl rfl (inI (by have := sz_bd (b.x - a.x); have := sz_bd (b.y - a.y); omega))) rfl <| vl (as_ rfl) rfl <| vl (as_ rfl) rfl <| vl (as_ rfl) rfl <| nl <| nT <| rt <| tR (.tmp rfl (.tmp rfl (.tmp rfl .nil))) <| ?_
  exact ⟨rfl, z_24⟩
set_option maxRecDepth 100000 in
set_option maxHeartbeats 400000 in
theorem cells_in (a b : Cel) (w : World) (h : -1000 ≤ a.x ∧ a.x ≤ 1000 ∧ -1000 ≤ a.y ∧ a.y ≤ 1000) (h2 : -1000 ≤ b.x ∧ b.x ≤ 1000 ∧ -1000 ≤ b.y ∧ b.y ≤ 1000) :
    Calls Try.prog 175 #[.agg #[.int .i64 a.x, .int .i64 a.y], .agg #[.int .i64 b.x, .int .i64 b.y]] w (fun e w' => ∃ A c, e = .returned (.tuple #[.slice A (lineC a b).length c, .int .i64 0]) ∧ Cel.rep.SOwn 70 16 w' w.heap.size (Rep.blkOf A) A c (lineC a b) ∧ Ext w w') := by
  refine calls_W (n := 93) Try.func175 rfl rfl rfl ?_
  refine sq <| rg <| bx rfl rfl rfl rfl fun w_1 b_2 x_3 l_4 B_5 => ?_
  have q_6 := x_3.size
  have z_1 := Ext.tr (Ext.rf w) x_3
  have q_7 := B_5.lt
  refine bx rfl rfl rfl rfl fun w_8 b_9 x_10 l_11 B_12 => ?_
  have q_13 := x_10.size
  have z_8 := Ext.tr z_1 x_10
  have q_14 := B_12.lt
  refine vl (as_ rfl) rfl <| vl (as_ rfl) rfl <| nl <| nT <| sq <| sq <| rg <| ?_
  have B_5 := B_5.later x_10
  refine vl (ld rfl (B_5.all LinG_ag_api_Cell LinG_sz_api_Cell)) rfl <| ca LinG_en_line_near rfl rfl ((near_in a _ (by omega)).mono ?_)
  rintro e w_15 ⟨rfl, x_16⟩
  refine ⟨_, rfl, ?_⟩
  have q_17 := x_16.size
  have z_15 := Ext.tr z_8 x_16
  refine vl (nt rfl) rfl <| vl (mv rfl) rfl <| ug rfl rfl rfl <| ?_
  have B_12 := B_12.later x_16
  refine vl (ld rfl (B_12.all LinG_ag_api_Cell LinG_sz_api_Cell)) rfl <| ug rfl rfl rfl <| ca LinG_en_line_near rfl rfl ((near_in b _ (by omega)).mono ?_)
  rintro e w_18 ⟨rfl, x_19⟩
  refine ⟨_, rfl, ?_⟩
  have q_20 := x_19.size
  have z_18 := Ext.tr z_15 x_19
  refine ug rfl rfl rfl <| vl (nt rfl) rfl <| vl (pkF rfl rfl) rfl <| nl <| nT <| cF rfl <| sk <| nT <| sq <| rg <| vl (fa LinG_fd_api_Cell_0 rfl) rfl <| ?_
  have B_12 := B_12.later x_19
  refine vl (ld rfl (B_12.one LinG_ag_int rfl)) rfl <| vl (fa LinG_fd_api_Cell_0 rfl) rfl <| ?_
  have B_5 := B_5.later (Ext.tr x_16 x_19)
  refine vl (ld rfl (B_5.one LinG_ag_int rfl)) rfl <| vl (bsu rfl rfl (inI (by omega))) rfl <| ca LinG_en_line_sign rfl rfl ((sign_in (b.x - a.x) _ (by omega)).mono ?_)
  rintro e w_21 ⟨rfl, x_22⟩
  refine ⟨_, rfl, ?_⟩
  have q_23 := x_22.size
  have z_21 := Ext.tr z_18 x_22
  refine vl (mv rfl) rfl <| vl (ex rfl rfl) rfl <| vl (ex rfl rfl) rfl <| vl (as_ rfl) rfl <| vl (as_ rfl) rfl <| nl <| nT <| sq <| rg <| vl (fa LinG_fd_api_Cell_1 rfl) rfl <| ?_
  have B_12 := B_12.later x_22
  refine vl (ld rfl (B_12.one LinG_ag_int rfl)) rfl <| vl (fa LinG_fd_api_Cell_1 rfl) rfl <| ?_
  have B_5 := B_5.later x_22
  refine vl (ld rfl (B_5.one LinG_ag_int rfl)) rfl <| vl (bsu rfl rfl (inI (by omega))) rfl <| ca LinG_en_line_sign rfl rfl ((sign_in (b.y - a.y) _ (by omega)).mono ?_)
  rintro e w_24 ⟨rfl, x_25⟩
  refine ⟨_, rfl, ?_⟩
  have q_26 := x_25.size
  have z_24 := Ext.tr z_21 x_25
  refine vl (mv rfl) rfl <| vl (ex rfl rfl) rfl <| vl (ex rfl rfl) rfl <| vl (as_ rfl) rfl <| vl (as_ rfl) rfl <| nl <| nT <| sq <| rg <| vl (mv rfl) rfl <| vl (mv rfl) rfl <| vl (as_ rfl) rfl <| vl (as_ rfl) rfl <| nl <| nT <| sq <| sq <| rg <| vl (mv rfl) rfl <| vl (mv rfl) rfl <| vl (bgt rfl rfl) rfl <| nl <| nT <| ?_
  refine clt rfl (fun h_27 => ?_) (fun h_27 => ?_)
  · have hl1 := sz_bd (b.x - a.x)
    have hl2 := sz_bd (b.y - a.y)
    have hfar : far a b = sz (b.y - a.y) := by unfold far; omega
    have hnar : nar a b = sz (b.x - a.x) := by unfold nar; omega
    have hdec : decide (sz (b.x - a.x) < sz (b.y - a.y)) = true := by exact decide_eq_true h_27
    refine rg <| vl (mv rfl) rfl <| vl (mv rfl) rfl <| vl (as_ rfl) rfl <| vl (as_ rfl) rfl <| nl <| nT <| sq <| rg <| ?_
    have B_5 := B_5.later x_25
    refine vl (ld rfl (B_5.all LinG_ag_api_Cell LinG_sz_api_Cell)) rfl <| bs (e := 70) (cs := [.int .i64 a.x, .int .i64 a.y]) rfl (fun _ => by kernel_rfl) rfl fun w_28 b_29 x_30 l_31 B_32 => ?_
    have q_33 := x_30.size
    have z_28 := Ext.tr z_24 x_30
    have q_34 := B_32.lt
    refine vl (as_ rfl) rfl <| nl <| nT <| sq <| rg <| vl (as_ rfl) rfl <| nl <| nT <| sq <| sq <| rg <| vl (mv rfl) rfl <| vl (mv rfl) rfl <| nl <| nT <| bk <| ?_
    have B_5 := B_5.later x_30
    have lo_35 : ∀ q ∈ Rep.blkOf (some ⟨b_29, 0, none⟩), b_29 ≤ q := fun q hq => Nat.le_of_eq (List.mem_singleton.1 hq).symm
    refine lp (fun mI EI wI => ∃ k : Nat, ∃ Ao : Option Addr, ∃ co : Nat, EI = [(2, .pointer (some ⟨b_2, 0, none⟩)), (4, .slice none 0 0), (5, .int .i64 0), (6, .int .i64 (sgn (b.x - a.x))), (7, .int .i64 (sz (b.x - a.x))), (8, .int .i64 (sgn (b.y - a.y))), (9, .int .i64 (sz (b.y - a.y))), (10, .int .i64 (sz (b.y - a.y))), (11, .int .i64 (sz (b.x - a.x))), (12, .slice Ao ((pts a b k).length) co), (13, .int .i64 ((lst a b k).1)), (50, .int .i64 (sz (b.y - a.y))), (51, .int .i64 (k : Int))] ∧ mI = (sz (b.y - a.y)).toNat - k ∧ Ext w wI ∧ Blk wI b_2 [.int .i64 ((lst a b k).2.x), .int .i64 ((lst a b k).2.y)] 70 (0, 0) ∧ Cel.rep.SOwn 70 16 wI w.heap.size (Rep.blkOf Ao) Ao co (pts a b k) ∧ ((k : Int) ≤ sz (b.y - a.y)) ∧ (∀ q ∈ Rep.blkOf Ao, q = b_2 → False)) _ _ ⟨0, some ⟨b_29, 0, none⟩, 1, rfl, rfl, z_28, B_5, (Blk.ownN (R := Cel.rep) (by_ := 16) (B := w.heap.size) (k := [a]) B_32 [[.int .i64 a.x, .int .i64 a.y]] rfl ⟨⟨rfl, okI_iff.2 (by omega), okI_iff.2 (by omega)⟩, trivial⟩ (by simp) (by simp) (by decide) (by omega)), (by have := sz_bd (b.y - a.y); have := sz_bd (b.x - a.x); omega), (fun q hq hb => by (have := lo_35 q hq; omega))⟩ (.cons rfl (.cons rfl (.cons rfl (.cons rfl (.cons rfl (.cons rfl (.cons rfl (.cons rfl (.cons rfl (.cons rfl (.cons (loI rfl (by first | omega | rfl | (simp <;> omega))) (.cons rfl (.cons (loI rfl (by first | omega | rfl | (simp <;> omega))) .nil))))))))))))) ?_
    rintro m_38 E_39 w_37 ⟨k, Ao, co, rfl, rfl, z_37, BL, OO, hk, d_36⟩
    have q_40 := z_37.size
    have q_41 := BL.lt
    have u_42 := fun q hq => (OO.lt q hq).2
    have hb := lst_bd a b k
    have hp := lst_pos a b k
    have hs1 := sgn_bd (b.x - a.x)
    have hs2 := sgn_bd (b.y - a.y)
    have hl1 := sz_bd (b.x - a.x)
    have hl2 := sz_bd (b.y - a.y)
    have hpl := pts_len a b k
    refine sq <| rg <| vl (blt rfl rfl) rfl <| nl <| nT <| sq <| ?_
    refine clt rfl (fun h_43 => ?_) (fun h_43 => ?_)
    · refine sk <| nT <| sq <| bk <| sq <| rg <| vl (mv rfl) rfl <| vl (mv rfl) rfl <| vl (bmu rfl rfl (inI (by omega))) rfl <| vl (bad rfl rfl (inI (by omega))) rfl <| vl (as_ rfl) rfl <| nl <| nT <| sq <| rg <| vl (mv rfl) rfl <| vl (mv rfl) rfl <| vl (bge rfl rfl) rfl <| vl (as_ rfl) rfl <| nl <| nT <| sq <| sq <| rg <| ?_
      refine vl (mv rfl) rfl <| nl <| nT <| ?_
      refine cle rfl (fun h_44 => ?_) (fun h_44 => ?_)
      · rw [hfar] at hb
        have hasd : decide (sz (b.y - a.y) ≤ ((lst a b k).1) + (2 * (sz (b.x - a.x)))) = true := by exact decide_eq_true h_44
        refine rg <| vl (mv rfl) rfl <| vl (mv rfl) rfl <| vl (bmu rfl rfl (inI (by omega))) rfl <| vl (bsu rfl rfl (inI (by omega))) rfl <| vl (as_ rfl) rfl <| nl <| nT <| sq <| sq <| rg <| vl (mv rfl) rfl <| vl (mv rfl) rfl <| vl (bge rfl rfl) rfl <| vl (mv rfl) rfl <| vQ rfl rfl rfl rfl (fun hc => mv rfl) rfl <| vl (pO rfl rfl rfl rfl) rfl <| nl <| nT <| ?_
        have h_45 : ((decide (sz (b.y - a.y) ≤ sz (b.x - a.x))) || (decide (sz (b.y - a.y) ≤ ((lst a b k).1) + (2 * (sz (b.x - a.x)))))) = true := by simp only [Bool.or_eq_true, decide_eq_true_eq]; omega
        refine cT (by rw [← h_45]; rfl) <| rg <| vl (fa LinG_fd_api_Cell_0 rfl) rfl <| vl (ld rfl (BL.one LinG_ag_int rfl)) rfl <| vl (mv rfl) rfl <| vl (bad rfl rfl (inI (by omega))) rfl <| vl (fa LinG_fd_api_Cell_0 rfl) rfl <| st (new := [.int .i64 (((lst a b k).2.x) + (sgn (b.x - a.x))), .int .i64 ((lst a b k).2.y)]) rfl rfl BL rfl LinG_sz_int rfl rfl rfl fun w_46 m_47 BL => ?_
        have q_49 := m_47.size
        have z_46 := Ext.mod z_37 m_47 (by simp only [List.mem_singleton, forall_eq]; omega)
        have q_48 := m_47.size
        refine nl <| nT <| sq <| sq <| rg <| vl (mv rfl) rfl <| vl (mv rfl) rfl <| vl (bgt rfl rfl) rfl <| vl (mv rfl) rfl <| vQ rfl rfl rfl rfl (fun hc => mv rfl) rfl <| vl (pO rfl rfl rfl rfl) rfl <| nl <| nT <| ?_
        have h_50 : ((decide (sz (b.x - a.x) < sz (b.y - a.y))) || (decide (sz (b.y - a.y) ≤ ((lst a b k).1) + (2 * (sz (b.x - a.x)))))) = true := by simp only [Bool.or_eq_true, decide_eq_true_eq]; omega
        refine cT (by rw [← h_50]; rfl) <| rg <| vl (fa LinG_fd_api_Cell_1 rfl) rfl <| vl (ld rfl (BL.one LinG_ag_int rfl)) rfl <| vl (mv rfl) rfl <| vl (bad rfl rfl (inI (by omega))) rfl <| vl (fa LinG_fd_api_Cell_1 rfl) rfl <| st (new := [.int .i64 (((lst a b k).2.x) + (sgn (b.x - a.x))), .int .i64 (((lst a b k).2.y) + (sgn (b.y - a.y)))]) rfl rfl BL rfl LinG_sz_int rfl rfl rfl fun w_51 m_52 BL => ?_
        have q_54 := m_52.size
        have z_51 := Ext.mod z_46 m_52 (by simp only [List.mem_singleton, forall_eq]; omega)
        have q_53 := m_52.size
        refine nl <| nT <| rg <| vl (mv rfl) rfl <| vl (ld rfl (BL.all LinG_ag_api_Cell LinG_sz_api_Cell)) rfl <| bs (e := 70) (cs := [.int .i64 (((lst a b k).2.x) + (sgn (b.x - a.x))), .int .i64 (((lst a b k).2.y) + (sgn (b.y - a.y)))]) rfl (fun _ => by kernel_rfl) rfl fun w_55 b_56 x_57 l_58 B_59 => ?_
        have q_60 := x_57.size
        have z_55 := Ext.tr z_51 x_57
        have q_61 := B_59.lt
        have OO := OO.mod m_47 (fun q hq h => by have hb := List.mem_singleton.1 h; exfalso; (exact d_36 q hq hb))
        have OO := OO.mod m_52 (fun q hq h => by have hb := List.mem_singleton.1 h; exfalso; (exact d_36 q hq hb))
        have OO := OO.later x_57
        refine ap LinG_el_S_api_Cell Rep.flat_bare OO (Blk.has1 (R := Cel.rep) (by_ := 16) (q := (⟨((lst a b k).2.x) + (sgn (b.x - a.x)), ((lst a b k).2.y) + (sgn (b.y - a.y))⟩ : Cel)) B_59 ⟨rfl, ⟨okI_iff.2 (by (try dsimp only); omega), okI_iff.2 (by (try dsimp only); omega)⟩⟩ (by decide)) rfl rfl (by simp only [List.length_cons, List.length_nil]; omega) (by simp only [List.length_cons, List.length_nil]; omega) z_55.size rfl fun w_62 A_63 c_64 m_65 O_66 g_67 n_68 => ?_
        have q_69 := m_65.size
        have z_62 := Ext.mod z_55 m_65 (fun q hq => (OO.lt q hq).1)
        have u_70 := fun q hq => (O_66.lt q hq).2
        have q_71 := m_65.size
        refine vl (as_ rfl) rfl <| nl <| nB <| nT <| rg <| vl (bad rfl rfl (inI (by omega))) rfl <| vl (mv rfl) rfl <| nl <| ?_
        have e1 : lst a b (k + 1) = ((((lst a b k).1) + (2 * (sz (b.x - a.x)))) - (2 * (sz (b.y - a.y))), ⟨((lst a b k).2.x) + (sgn (b.x - a.x)), ((lst a b k).2.y) + (sgn (b.y - a.y))⟩) := by
          show lstep a b (lst a b k) = _
          unfold lstep
          simp only [hfar, hnar, hdec, hasd, if_true, if_false, Bool.or_true, Bool.true_or, Bool.or_false, Bool.false_or, Bool.false_eq_true, decide_true, decide_false, Bool.not_true, Bool.not_false]
        have e2 := pts_succ a b k
        rw [e1] at e2
        have e3 : (pts a b (k + 1)).length = k + 2 := pts_len a b (k + 1)
        have BL := BL.later x_57
        have BL := BL.mod m_65 (fun hq => d_36 _ hq rfl)
        exact nI _ _ ⟨k + 1, A_63, c_64, rfl, rfl, z_62, (by rw [e1]; exact BL), (by rw [e2]; exact O_66), by omega, (fun q hq hb => by (exact Or.elim (g_67 q hq) (fun k_72 => by (exact d_36 q k_72 hb)) (fun k_72 => by omega)))⟩ (by omega) (.cons rfl (.cons rfl (.cons rfl (.cons rfl (.cons rfl (.cons rfl (.cons rfl (.cons rfl (.cons rfl (.cons (by rw [e2]; rfl) (.cons (loI rfl (by rw [e1])) (.cons rfl (.cons (loI rfl (by first | omega | rfl | (simp <;> omega))) .nil)))))))))))))
      · rw [hfar] at hb
        have hasd : decide (sz (b.y - a.y) ≤ ((lst a b k).1) + (2 * (sz (b.x - a.x)))) = false := by exact decide_eq_false h_44
        refine sk <| nT <| sq <| sq <| rg <| vl (mv rfl) rfl <| vl (mv rfl) rfl <| vl (bge rfl rfl) rfl <| vl (mv rfl) rfl <| vQ rfl rfl rfl rfl (fun hc => mv rfl) rfl <| vl (pO rfl rfl rfl rfl) rfl <| nl <| nT <| ?_
        have h_73 : ((decide (sz (b.y - a.y) ≤ sz (b.x - a.x))) || (decide (sz (b.y - a.y) ≤ ((lst a b k).1) + (2 * (sz (b.x - a.x)))))) = false := by simp only [Bool.or_eq_false_iff, decide_eq_false_iff_not]; omega
        refine cF (by rw [← h_73]; rfl) <| sk <| nT <| sq <| sq <| rg <| vl (mv rfl) rfl <| vl (mv rfl) rfl <| vl (bgt rfl rfl) rfl <| vl (mv rfl) rfl <| vQ rfl rfl rfl rfl (fun hc => mv rfl) rfl <| vl (pO rfl rfl rfl rfl) rfl <| nl <| nT <| ?_
        have h_74 : ((decide (sz (b.x - a.x) < sz (b.y - a.y))) || (decide (sz (b.y - a.y) ≤ ((lst a b k).1) + (2 * (sz (b.x - a.x)))))) = true := by simp only [Bool.or_eq_true, decide_eq_true_eq]; omega
        refine cT (by rw [← h_74]; rfl) <| rg <| vl (fa LinG_fd_api_Cell_1 rfl) rfl <| vl (ld rfl (BL.one LinG_ag_int rfl)) rfl <| vl (mv rfl) rfl <| vl (bad rfl rfl (inI (by omega))) rfl <| vl (fa LinG_fd_api_Cell_1 rfl) rfl <| st (new := [.int .i64 ((lst a b k).2.x), .int .i64 (((lst a b k).2.y) + (sgn (b.y - a.y)))]) rfl rfl BL rfl LinG_sz_int rfl rfl rfl fun w_75 m_76 BL => ?_
        have q_78 := m_76.size
        have z_75 := Ext.mod z_37 m_76 (by simp only [List.mem_singleton, forall_eq]; omega)
        have q_77 := m_76.size
        refine nl <| nT <| rg <| vl (mv rfl) rfl <| vl (ld rfl (BL.all LinG_ag_api_Cell LinG_sz_api_Cell)) rfl <| bs (e := 70) (cs := [.int .i64 ((lst a b k).2.x), .int .i64 (((lst a b k).2.y) + (sgn (b.y - a.y)))]) rfl (fun _ => by kernel_rfl) rfl fun w_79 b_80 x_81 l_82 B_83 => ?_
        have q_84 := x_81.size
        have z_79 := Ext.tr z_75 x_81
        have q_85 := B_83.lt
        have OO := OO.mod m_76 (fun q hq h => by have hb := List.mem_singleton.1 h; exfalso; (exact d_36 q hq hb))
        have OO := OO.later x_81
        refine ap LinG_el_S_api_Cell Rep.flat_bare OO (Blk.has1 (R := Cel.rep) (by_ := 16) (q := (⟨(lst a b k).2.x, ((lst a b k).2.y) + (sgn (b.y - a.y))⟩ : Cel)) B_83 ⟨rfl, ⟨okI_iff.2 (by (try dsimp only); omega), okI_iff.2 (by (try dsimp only); omega)⟩⟩ (by decide)) rfl rfl (by simp only [List.length_cons, List.length_nil]; omega) (by simp only [List.length_cons, List.length_nil]; omega) z_79.size rfl fun w_86 A_87 c_88 m_89 O_90 g_91 n_92 => ?_
        have q_93 := m_89.size
        have z_86 := Ext.mod z_79 m_89 (fun q hq => (OO.lt q hq).1)
        have u_94 := fun q hq => (O_90.lt q hq).2
        have q_95 := m_89.size
        refine vl (as_ rfl) rfl <| nl <| nB <| nT <| rg <| vl (bad rfl rfl (inI (by omega))) rfl <| vl (mv rfl) rfl <| nl <| ?_
        have e1 : lst a b (k + 1) = (((lst a b k).1) + (2 * (sz (b.x - a.x))), ⟨(lst a b k).2.x, ((lst a b k).2.y) + (sgn (b.y - a.y))⟩) := by
          show lstep a b (lst a b k) = _
          unfold lstep
          simp only [hfar, hnar, hdec, hasd, if_true, if_false, Bool.or_true, Bool.true_or, Bool.or_false, Bool.false_or, Bool.false_eq_true, decide_true, decide_false, Bool.not_true, Bool.not_false]
        have e2 := pts_succ a b k
        rw [e1] at e2
        have e3 : (pts a b (k + 1)).length = k + 2 := pts_len a b (k + 1)
        have BL := BL.later x_81
        have BL := BL.mod m_89 (fun hq => d_36 _ hq rfl)
        exact nI _ _ ⟨k + 1, A_87, c_88, rfl, rfl, z_86, (by rw [e1]; exact BL), (by rw [e2]; exact O_90), by omega, (fun q hq hb => by (exact Or.elim (g_91 q hq) (fun k_96 => by (exact d_36 q k_96 hb)) (fun k_96 => by omega)))⟩ (by omega) (.cons rfl (.cons rfl (.cons rfl (.cons rfl (.cons rfl (.cons rfl (.cons rfl (.cons rfl (.cons rfl (.cons (by rw [e2]; rfl) (.cons (loI rfl (by rw [e1])) (.cons rfl (.cons (loI rfl (by first | omega | rfl | (simp <;> omega))) .nil)))))))))))))
    · refine xt <| xT <| xK <| xB <| nT <| sq <| rg <| vl (mv rfl) rfl <| vl (as_ rfl) rfl <| vl (as_ rfl) rfl <| nl <| nT <| rt <| tR (.tmp rfl (.tmp rfl .nil)) <| ?_
      have hkk : k = (far a b).toNat := by omega
      subst hkk
      exact ⟨Ao, co, rfl, OO, z_37⟩
  · have hl1 := sz_bd (b.x - a.x)
    have hl2 := sz_bd (b.y - a.y)
    have hfar : far a b = sz (b.x - a.x) := by unfold far; omega
    have hnar : nar a b = sz (b.y - a.y) := by unfold nar; omega
    have hdec : decide (sz (b.x - a.x) < sz (b.y - a.y)) = false := by exact decide_eq_false h_27
    refine sk <| nT <| sq <| rg <| ?_
    have B_5 := B_5.later x_25
    refine vl (ld rfl (B_5.all LinG_ag_api_Cell LinG_sz_api_Cell)) rfl <| bs (e := 70) (cs := [.int .i64 a.x, .int .i64 a.y]) rfl (fun _ => by kernel_rfl) rfl fun w_97 b_98 x_99 l_100 B_101 => ?_
    have q_102 := x_99.size
    have z_97 := Ext.tr z_24 x_99
    have q_103 := B_101.lt
    refine vl (as_ rfl) rfl <| nl <| nT <| sq <| rg <| vl (as_ rfl) rfl <| nl <| nT <| sq <| sq <| rg <| vl (mv rfl) rfl <| vl (mv rfl) rfl <| nl <| nT <| bk <| ?_
    have B_5 := B_5.later x_99
    have lo_104 : ∀ q ∈ Rep.blkOf (some ⟨b_98, 0, none⟩), b_98 ≤ q := fun q hq => Nat.le_of_eq (List.mem_singleton.1 hq).symm
    refine lp (fun mI EI wI => ∃ k : Nat, ∃ Ao : Option Addr, ∃ co : Nat, EI = [(2, .pointer (some ⟨b_2, 0, none⟩)), (4, .slice none 0 0), (5, .int .i64 0), (6, .int .i64 (sgn (b.x - a.x))), (7, .int .i64 (sz (b.x - a.x))), (8, .int .i64 (sgn (b.y - a.y))), (9, .int .i64 (sz (b.y - a.y))), (10, .int .i64 (sz (b.x - a.x))), (11, .int .i64 (sz (b.y - a.y))), (12, .slice Ao ((pts a b k).length) co), (13, .int .i64 ((lst a b k).1)), (50, .int .i64 (sz (b.x - a.x))), (51, .int .i64 (k : Int))] ∧ mI = (sz (b.x - a.x)).toNat - k ∧ Ext w wI ∧ Blk wI b_2 [.int .i64 ((lst a b k).2.x), .int .i64 ((lst a b k).2.y)] 70 (0, 0) ∧ Cel.rep.SOwn 70 16 wI w.heap.size (Rep.blkOf Ao) Ao co (pts a b k) ∧ ((k : Int) ≤ sz (b.x - a.x)) ∧ (∀ q ∈ Rep.blkOf Ao, q = b_2 → False)) _ _ ⟨0, some ⟨b_98, 0, none⟩, 1, rfl, rfl, z_97, B_5, (Blk.ownN (R := Cel.rep) (by_ := 16) (B := w.heap.size) (k := [a]) B_101 [[.int .i64 a.x, .int .i64 a.y]] rfl ⟨⟨rfl, okI_iff.2 (by omega), okI_iff.2 (by omega)⟩, trivial⟩ (by simp) (by simp) (by decide) (by omega)), (by have := sz_bd (b.y - a.y); have := sz_bd (b.x - a.x); omega), (fun q hq hb => by (have := lo_104 q hq; omega))⟩ (.cons rfl (.cons rfl (.cons rfl (.cons rfl (.cons rfl (.cons rfl (.cons rfl (.cons rfl (.cons rfl (.cons rfl (.cons (loI rfl (by first | omega | rfl | (simp <;> omega))) (.cons rfl (.cons (loI rfl (by first | omega | rfl | (simp <;> omega))) .nil))))))))))))) ?_
    rintro m_107 E_108 w_106 ⟨k, Ao, co, rfl, rfl, z_106, BL, OO, hk, d_105⟩
    have q_109 := z_106.size
    have q_110 := BL.lt
    have u_111 := fun q hq => (OO.lt q hq).2
    have hb := lst_bd a b k
    have hp := lst_pos a b k
    have hs1 := sgn_bd (b.x - a.x)
    have hs2 := sgn_bd (b.y - a.y)
    have hl1 := sz_bd (b.x - a.x)
    have hl2 := sz_bd (b.y - a.y)
    have hpl := pts_len a b k
    refine sq <| rg <| vl (blt rfl rfl) rfl <| nl <| nT <| sq <| ?_
    refine clt rfl (fun h_112 => ?_) (fun h_112 => ?_)
    · refine sk <| nT <| sq <| bk <| sq <| rg <| vl (mv rfl) rfl <| vl (mv rfl) rfl <| vl (bmu rfl rfl (inI (by omega))) rfl <| vl (bad rfl rfl (inI (by omega))) rfl <| vl (as_ rfl) rfl <| nl <| nT <| sq <| rg <| vl (mv rfl) rfl <| vl (mv rfl) rfl <| vl (bge rfl rfl) rfl <| vl (as_ rfl) rfl <| nl <| nT <| sq <| sq <| rg <| ?_
      refine vl (mv rfl) rfl <| nl <| nT <| ?_
      refine cle rfl (fun h_113 => ?_) (fun h_113 => ?_)
      · rw [hfar] at hb
        have hasd : decide (sz (b.x - a.x) ≤ ((lst a b k).1) + (2 * (sz (b.y - a.y)))) = true := by exact decide_eq_true h_113
        refine rg <| vl (mv rfl) rfl <| vl (mv rfl) rfl <| vl (bmu rfl rfl (inI (by omega))) rfl <| vl (bsu rfl rfl (inI (by omega))) rfl <| vl (as_ rfl) rfl <| nl <| nT <| sq <| sq <| rg <| vl (mv rfl) rfl <| vl (mv rfl) rfl <| vl (bge rfl rfl) rfl <| vl (mv rfl) rfl <| vQ rfl rfl rfl rfl (fun hc => mv rfl) rfl <| vl (pO rfl rfl rfl rfl) rfl <| nl <| nT <| ?_
        have h_114 : ((decide (sz (b.y - a.y) ≤ sz (b.x - a.x))) || (decide (sz (b.x - a.x) ≤ ((lst a b k).1) + (2 * (sz (b.y - a.y)))))) = true := by simp only [Bool.or_eq_true, decide_eq_true_eq]; omega
        refine cT (by rw [← h_114]; rfl) <| rg <| vl (fa LinG_fd_api_Cell_0 rfl) rfl <| vl (ld rfl (BL.one LinG_ag_int rfl)) rfl <| vl (mv rfl) rfl <| vl (bad rfl rfl (inI (by omega))) rfl <| vl (fa LinG_fd_api_Cell_0 rfl) rfl <| st (new := [.int .i64 (((lst a b k).2.x) + (sgn (b.x - a.x))), .int .i64 ((lst a b k).2.y)]) rfl rfl BL rfl LinG_sz_int rfl rfl rfl fun w_115 m_116 BL => ?_
        have q_118 := m_116.size
        have z_115 := Ext.mod z_106 m_116 (by simp only [List.mem_singleton, forall_eq]; omega)
        have q_117 := m_116.size
        refine nl <| nT <| sq <| sq <| rg <| vl (mv rfl) rfl <| vl (mv rfl) rfl <| vl (bgt rfl rfl) rfl <| vl (mv rfl) rfl <| vQ rfl rfl rfl rfl (fun hc => mv rfl) rfl <| vl (pO rfl rfl rfl rfl) rfl <| nl <| nT <| ?_
        have h_119 : ((decide (sz (b.x - a.x) < sz (b.y - a.y))) || (decide (sz (b.x - a.x) ≤ ((lst a b k).1) + (2 * (sz (b.y - a.y)))))) = true := by simp only [Bool.or_eq_true, decide_eq_true_eq]; omega
        refine cT (by rw [← h_119]; rfl) <| rg <| vl (fa LinG_fd_api_Cell_1 rfl) rfl <| vl (ld rfl (BL.one LinG_ag_int rfl)) rfl <| vl (mv rfl) rfl <| vl (bad rfl rfl (inI (by omega))) rfl <| vl (fa LinG_fd_api_Cell_1 rfl) rfl <| st (new := [.int .i64 (((lst a b k).2.x) + (sgn (b.x - a.x))), .int .i64 (((lst a b k).2.y) + (sgn (b.y - a.y)))]) rfl rfl BL rfl LinG_sz_int rfl rfl rfl fun w_120 m_121 BL => ?_
        have q_123 := m_121.size
        have z_120 := Ext.mod z_115 m_121 (by simp only [List.mem_singleton, forall_eq]; omega)
        have q_122 := m_121.size
        refine nl <| nT <| rg <| vl (mv rfl) rfl <| vl (ld rfl (BL.all LinG_ag_api_Cell LinG_sz_api_Cell)) rfl <| bs (e := 70) (cs := [.int .i64 (((lst a b k).2.x) + (sgn (b.x - a.x))), .int .i64 (((lst a b k).2.y) + (sgn (b.y - a.y)))]) rfl (fun _ => by kernel_rfl) rfl fun w_124 b_125 x_126 l_127 B_128 => ?_
        have q_129 := x_126.size
        have z_124 := Ext.tr z_120 x_126
        have q_130 := B_128.lt
        have OO := OO.mod m_116 (fun q hq h => by have hb := List.mem_singleton.1 h; exfalso; (exact d_105 q hq hb))
        have OO := OO.mod m_121 (fun q hq h => by have hb := List.mem_singleton.1 h; exfalso; (exact d_105 q hq hb))
        have OO := OO.later x_126
        refine ap LinG_el_S_api_Cell Rep.flat_bare OO (Blk.has1 (R := Cel.rep) (by_ := 16) (q := (⟨((lst a b k).2.x) + (sgn (b.x - a.x)), ((lst a b k).2.y) + (sgn (b.y - a.y))⟩ : Cel)) B_128 ⟨rfl, ⟨okI_iff.2 (by (try dsimp only); omega), okI_iff.2 (by (try dsimp only); omega)⟩⟩ (by decide)) rfl rfl (by simp only [List.length_cons, List.length_nil]; omega) (by simp only [List.length_cons, List.length_nil]; omega) z_124.size rfl fun w_131 A_132 c_133 m_134 O_135 g_136 n_137 => ?_
        have q_138 := m_134.size
        have z_131 := Ext.mod z_124 m_134 (fun q hq => (OO.lt q hq).1)
        have u_139 := fun q hq => (O_135.lt q hq).2
        have q_140 := m_134.size
        refine vl (as_ rfl) rfl <| nl <| nB <| nT <| rg <| vl (bad rfl rfl (inI (by omega))) rfl <| vl (mv rfl) rfl <| nl <| ?_
        have e1 : lst a b (k + 1) = ((((lst a b k).1) + (2 * (sz (b.y - a.y)))) - (2 * (sz (b.x - a.x))), ⟨((lst a b k).2.x) + (sgn (b.x - a.x)), ((lst a b k).2.y) + (sgn (b.y - a.y))⟩) := by
          show lstep a b (lst a b k) = _
          unfold lstep
          simp only [hfar, hnar, hdec, hasd, if_true, if_false, Bool.or_true, Bool.true_or, Bool.or_false, Bool.false_or, Bool.false_eq_true, decide_true, decide_false, Bool.not_true, Bool.not_false]
        have e2 := pts_succ a b k
        rw [e1] at e2
        have e3 : (pts a b (k + 1)).length = k + 2 := pts_len a b (k + 1)
        have BL := BL.later x_126
        have BL := BL.mod m_134 (fun hq => d_105 _ hq rfl)
        exact nI _ _ ⟨k + 1, A_132, c_133, rfl, rfl, z_131, (by rw [e1]; exact BL), (by rw [e2]; exact O_135), by omega, (fun q hq hb => by (exact Or.elim (g_136 q hq) (fun k_141 => by (exact d_105 q k_141 hb)) (fun k_141 => by omega)))⟩ (by omega) (.cons rfl (.cons rfl (.cons rfl (.cons rfl (.cons rfl (.cons rfl (.cons rfl (.cons rfl (.cons rfl (.cons (by rw [e2]; rfl) (.cons (loI rfl (by rw [e1])) (.cons rfl (.cons (loI rfl (by first | omega | rfl | (simp <;> omega))) .nil)))))))))))))
      · rw [hfar] at hb
        have hasd : decide (sz (b.x - a.x) ≤ ((lst a b k).1) + (2 * (sz (b.y - a.y)))) = false := by exact decide_eq_false h_113
        refine sk <| nT <| sq <| sq <| rg <| vl (mv rfl) rfl <| vl (mv rfl) rfl <| vl (bge rfl rfl) rfl <| vl (mv rfl) rfl <| vQ rfl rfl rfl rfl (fun hc => mv rfl) rfl <| vl (pO rfl rfl rfl rfl) rfl <| nl <| nT <| ?_
        have h_142 : ((decide (sz (b.y - a.y) ≤ sz (b.x - a.x))) || (decide (sz (b.x - a.x) ≤ ((lst a b k).1) + (2 * (sz (b.y - a.y)))))) = true := by simp only [Bool.or_eq_true, decide_eq_true_eq]; omega
        refine cT (by rw [← h_142]; rfl) <| rg <| vl (fa LinG_fd_api_Cell_0 rfl) rfl <| vl (ld rfl (BL.one LinG_ag_int rfl)) rfl <| vl (mv rfl) rfl <| vl (bad rfl rfl (inI (by omega))) rfl <| vl (fa LinG_fd_api_Cell_0 rfl) rfl <| st (new := [.int .i64 (((lst a b k).2.x) + (sgn (b.x - a.x))), .int .i64 ((lst a b k).2.y)]) rfl rfl BL rfl LinG_sz_int rfl rfl rfl fun w_143 m_144 BL => ?_
        have q_146 := m_144.size
        have z_143 := Ext.mod z_106 m_144 (by simp only [List.mem_singleton, forall_eq]; omega)
        have q_145 := m_144.size
        refine nl <| nT <| sq <| sq <| rg <| vl (mv rfl) rfl <| vl (mv rfl) rfl <| vl (bgt rfl rfl) rfl <| vl (mv rfl) rfl <| vQ rfl rfl rfl rfl (fun hc => mv rfl) rfl <| vl (pO rfl rfl rfl rfl) rfl <| nl <| nT <| ?_
        have h_147 : ((decide (sz (b.x - a.x) < sz (b.y - a.y))) || (decide (sz (b.x - a.x) ≤ ((lst a b k).1) + (2 * (sz (b.y - a.y)))))) = false := by simp only [Bool.or_eq_false_iff, decide_eq_false_iff_not]; omega
        refine cF (by rw [← h_147]; rfl) <| sk <| nT <| rg <| vl (mv rfl) rfl <| vl (ld rfl (BL.all LinG_ag_api_Cell LinG_sz_api_Cell)) rfl <| bs (e := 70) (cs := [.int .i64 (((lst a b k).2.x) + (sgn (b.x - a.x))), .int .i64 ((lst a b k).2.y)]) rfl (fun _ => by kernel_rfl) rfl fun w_148 b_149 x_150 l_151 B_152 => ?_
        have q_153 := x_150.size
        have z_148 := Ext.tr z_143 x_150
        have q_154 := B_152.lt
        have OO := OO.mod m_144 (fun q hq h => by have hb := List.mem_singleton.1 h; exfalso; (exact d_105 q hq hb))
        have OO := OO.later x_150
        refine ap LinG_el_S_api_Cell Rep.flat_bare OO (Blk.has1 (R := Cel.rep) (by_ := 16) (q := (⟨((lst a b k).2.x) + (sgn (b.x - a.x)), (lst a b k).2.y⟩ : Cel)) B_152 ⟨rfl, ⟨okI_iff.2 (by (try dsimp only); omega), okI_iff.2 (by (try dsimp only); omega)⟩⟩ (by decide)) rfl rfl (by simp only [List.length_cons, List.length_nil]; omega) (by simp only [List.length_cons, List.length_nil]; omega) z_148.size rfl fun w_155 A_156 c_157 m_158 O_159 g_160 n_161 => ?_
        have q_162 := m_158.size
        have z_155 := Ext.mod z_148 m_158 (fun q hq => (OO.lt q hq).1)
        have u_163 := fun q hq => (O_159.lt q hq).2
        have q_164 := m_158.size
        refine vl (as_ rfl) rfl <| nl <| nB <| nT <| rg <| vl (bad rfl rfl (inI (by omega))) rfl <| vl (mv rfl) rfl <| nl <| ?_
        have e1 : lst a b (k + 1) = (((lst a b k).1) + (2 * (sz (b.y - a.y))), ⟨((lst a b k).2.x) + (sgn (b.x - a.x)), (lst a b k).2.y⟩) := by
          show lstep a b (lst a b k) = _
          unfold lstep
          simp only [hfar, hnar, hdec, hasd, if_true, if_false, Bool.or_true, Bool.true_or, Bool.or_false, Bool.false_or, Bool.false_eq_true, decide_true, decide_false, Bool.not_true, Bool.not_false]
        have e2 := pts_succ a b k
        rw [e1] at e2
        have e3 : (pts a b (k + 1)).length = k + 2 := pts_len a b (k + 1)
        have BL := BL.later x_150
        have BL := BL.mod m_158 (fun hq => d_105 _ hq rfl)
        exact nI _ _ ⟨k + 1, A_156, c_157, rfl, rfl, z_155, (by rw [e1]; exact BL), (by rw [e2]; exact O_159), by omega, (fun q hq hb => by (exact Or.elim (g_160 q hq) (fun k_165 => by (exact d_105 q k_165 hb)) (fun k_165 => by omega)))⟩ (by omega) (.cons rfl (.cons rfl (.cons rfl (.cons rfl (.cons rfl (.cons rfl (.cons rfl (.cons rfl (.cons rfl (.cons (by rw [e2]; rfl) (.cons (loI rfl (by rw [e1])) (.cons rfl (.cons (loI rfl (by first | omega | rfl | (simp <;> omega))) .nil)))))))))))))
    · refine xt <| xT <| xK <| xB <| nT <| sq <| rg <| vl (mv rfl) rfl <| vl (as_ rfl) rfl <| vl (as_ rfl) rfl <| nl <| nT <| rt <| tR (.tmp rfl (.tmp rfl .nil)) <| ?_
      have hkk : k = (far a b).toNat := by omega
      subst hkk
      exact ⟨Ao, co, rfl, OO, z_106⟩
end Go.Proofs.Ytokehopkfnipmaa
