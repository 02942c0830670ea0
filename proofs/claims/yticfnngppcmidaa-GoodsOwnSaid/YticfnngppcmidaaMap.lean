/-
  Maps of the call's own whose values are numbers: what look-up, entry and store do, told by a list of entries.
-/
import Derived.Test.YticfnngppcmidaaBase
import Derived.WideKeyEntry
import Derived.Maps.Keyed
import Derived.DeepKeys4
set_option linter.unusedVariables false
namespace Go.Proofs.Yticfnngppcmidaa
open Go.RowKit Go.Maps

def setMap (w : World) (b : Nat) (es : Array MapEntry) (clock : Nat) : World := Go.ChangeMaps.setBlock w b (.map es clock)
theorem setMap_heap {w : World} {b : Nat} {es : Array MapEntry} {clock : Nat} (h : b < w.heap.size) : (setMap w b es clock).heap[b]? = some (.map es clock) := by
  simp [setMap, Go.ChangeMaps.setBlock, h]
theorem setMap_other {w : World} {b g : Nat} {es : Array MapEntry} {clock : Nat} (h : g ≠ b) : (setMap w b es clock).heap[g]? = w.heap[g]? := by
  simp [setMap, Go.ChangeMaps.setBlock, Array.getElem?_setIfInBounds_ne (Ne.symm h)]
theorem setMap_size {w : World} {b : Nat} {es : Array MapEntry} {clock : Nat} : (setMap w b es clock).heap.size = w.heap.size := by
  simp [setMap, Go.ChangeMaps.setBlock]
theorem setMap_below {B : Nat} {a w : World} {b : Nat} {es : Array MapEntry} {clock : Nat} (h : Below B a w) (hb : B ≤ b) : Below B a (setMap w b es clock) :=
  h.trans ⟨rfl, rfl, rfl, by simp [setMap_size], fun k hk => setMap_other (by omega)⟩
theorem setMap_drewN {w : World} {b n : Nat} {es : Array MapEntry} {clock : Nat} : setMap (w.drewN n) b es clock = (setMap w b es clock).drewN n := rfl
/-- An entry: its key, its number, its stamp. -/
def entOf {κ : Type} (key : κ → Value) (e : κ × Int × Nat) : MapEntry := ⟨key e.1, .int .i64 e.2.1, e.2.2⟩
/-- A map of the call's own. -/
structure MapIs {κ : Type} (key : κ → Value) (w : World) (b : Nat) (l : List (κ × Int × Nat)) (clock : Nat) : Prop where
  blk : w.heap[b]? = some (.map (l.map (entOf key)).toArray clock)
  born : ∀ e ∈ l, e.2.2 < clock
  stamps : (l.map (·.2.2)).Nodup
/-- What keys a map may have. -/
structure KeyOk {κ : Type} (P : Program) (k : TypeId) (key : κ → Value) (wf : κ → Prop) : Prop where
  keyed : Keyed P k
  lit : ∀ x, wf x → ∃ l, keyOf P k (key x) = some l
  inj : ∀ x y, key x = key y → x = y
namespace MapIs
section
variable {κ : Type} {key : κ → Value} {w : World} {b : Nat} {l : List (κ × Int × Nat)} {clock : Nat}
theorem lt (h : MapIs key w b l clock) : b < w.heap.size := (Array.getElem?_eq_some_iff.1 h.blk).1
theorem keep {w' : World} (h : MapIs key w b l clock) (hk : w'.heap[b]? = w.heap[b]?) : MapIs key w' b l clock := ⟨hk.trans h.blk, h.born, h.stamps⟩
theorem later {w' : World} (h : MapIs key w b l clock) (hb : Below w.heap.size w w') : MapIs key w' b l clock := h.keep (hb.block b h.lt)
theorem made (w : World) : MapIs key (w.alloc (.map #[] 0)) w.heap.size [] 0 := ⟨heap_alloc_new w _, (by simp), (by simp)⟩
theorem keyed_ {P : Program} {k : TypeId} {wf : κ → Prop} (K : KeyOk P k key wf) (hw : ∀ e ∈ l, wf e.1) : ∀ y ∈ l.map (entOf key), ∃ z, keyOf P k y.key = some z := by
  intro y hy
  obtain ⟨a, ha, rfl⟩ := List.mem_map.1 hy
  exact K.lit a.1 (hw a ha)
end
variable {κ : Type} [DecidableEq κ] {key : κ → Value} {w : World} {b : Nat} {l : List (κ × Int × Nat)} {clock : Nat}
def get (l : List (κ × Int × Nat)) (x : κ) : Option Int := (l.find? fun e => decide (e.1 = x)).map (·.2.1)
/-- Put: in its place, or behind. -/
def put (l : List (κ × Int × Nat)) (clock : Nat) (x : κ) (v : Int) : List (κ × Int × Nat) :=
  if l.any (fun e => decide (e.1 = x)) then l.map (fun e => if e.1 = x then (e.1, v, e.2.2) else e) else l ++ [(x, v, clock)]
def tick (l : List (κ × Int × Nat)) (clock : Nat) (x : κ) : Nat := if l.any (fun e => decide (e.1 = x)) then clock else clock + 1
theorem get_put (l : List (κ × Int × Nat)) (c : Nat) (x y : κ) (v : Int) : get (put l c x v) y = if y = x then some v else get l y := by
  unfold get put
  by_cases h : l.any (fun e => decide (e.1 = x)) = true
  · rw [if_pos h]
    induction l with
    | nil => simp at h
    | cons e r ih =>
      rw [List.map_cons]
      by_cases hex : e.1 = x
      · rw [if_pos hex]
        by_cases hy : y = x
        · subst hy
          rw [List.find?_cons_of_pos (by simp [hex])]
          simp
        · rw [if_neg hy, List.find?_cons_of_neg (by simp [hex, Ne.symm hy]), List.find?_cons_of_neg (by simp [hex, Ne.symm hy])]
          by_cases hr : r.any (fun e => decide (e.1 = x)) = true
          · have := ih hr
            rw [if_neg hy] at this
            exact this
          · have e0 : r.map (fun e => if e.1 = x then (e.1, v, e.2.2) else e) = r := by
              conv => rhs; rw [← List.map_id r]
              refine List.map_congr_left fun a ha => ?_
              rw [if_neg]; rfl
              intro he
              exact hr (List.any_eq_true.2 ⟨a, ha, by simp [he]⟩)
            rw [e0]
      · rw [if_neg hex]
        have hr : r.any (fun e => decide (e.1 = x)) = true := by simpa [hex] using h
        by_cases hey : e.1 = y
        · have hyx : ¬ y = x := fun h => hex (hey.trans h)
          rw [List.find?_cons_of_pos (by simp [hey]), List.find?_cons_of_pos (by simp [hey]), if_neg hyx]
        · rw [List.find?_cons_of_neg (by simp [hey]), List.find?_cons_of_neg (by simp [hey])]
          exact ih hr
  · rw [if_neg h, List.find?_append]
    by_cases hy : y = x
    · subst hy
      have : l.find? (fun e => decide (e.1 = y)) = none := by
        rw [List.find?_eq_none]
        intro e he hd
        exact h (List.any_eq_true.2 ⟨e, he, hd⟩)
      rw [this]; simp
    · rw [if_neg hy]
      cases l.find? (fun e => decide (e.1 = y)) <;> simp [Ne.symm hy]
theorem any_iff (l : List (κ × Int × Nat)) (x : κ) : l.any (fun e => decide (e.1 = x)) = (get l x).isSome := by
  unfold get
  rw [Option.isSome_map]
  induction l with
  | nil => rfl
  | cons e r ih =>
    by_cases h : e.1 = x
    · simp [h]
    · simp [h, ih]
theorem mem_put {l : List (κ × Int × Nat)} {c : Nat} {x : κ} {v : Int} {wf : κ → Prop} (hl : ∀ e ∈ l, wf e.1) (hx : wf x) : ∀ e ∈ put l c x v, wf e.1 := by
  intro e he
  unfold put at he
  split at he
  · obtain ⟨a, ha, rfl⟩ := List.mem_map.1 he
    split
    · exact hl a ha
    · exact hl a ha
  · rcases List.mem_append.1 he with he | he
    · exact hl e he
    · simp at he; subst he; exact hx
theorem get_of {l : List (κ × Int × Nat)} (hn : (l.map (·.1)).Nodup) {j n : Nat} {x : κ} {v : Int} (hj : l[j]? = some (x, v, n)) : get l x = some v := by
  unfold get
  induction l generalizing j with
  | nil => simp at hj
  | cons e r ih =>
    rw [List.map_cons, List.nodup_cons] at hn
    cases j with
    | zero => simp at hj; subst hj; simp
    | succ j =>
      have hj : r[j]? = some (x, v, n) := by simpa using hj
      have : e.1 ≠ x := fun he => hn.1 (List.mem_map.2 ⟨(x, v, n), List.mem_of_getElem? hj, he.symm⟩)
      rw [List.find?_cons_of_neg (by simpa using this)]
      exact ih hn.2 hj
theorem keys_put {l : List (κ × Int × Nat)} (hn : (l.map (·.1)).Nodup) (c : Nat) (x : κ) (v : Int) : ((put l c x v).map (·.1)).Nodup := by
  unfold put
  split
  · rw [List.map_map]
    have : ((fun e : κ × Int × Nat => e.1) ∘ fun e => if e.1 = x then (e.1, v, e.2.2) else e) = fun e => e.1 := by
      funext e; simp only [Function.comp]; split <;> rfl
    rw [this]; exact hn
  · rename_i h
    rw [List.map_append, List.nodup_append]
    refine ⟨hn, by simp, fun a ha c hc e => ?_⟩
    simp at hc
    obtain ⟨y, hy, rfl⟩ := List.mem_map.1 ha
    exact h (List.any_eq_true.2 ⟨y, hy, by simp [e, hc]⟩)
variable {P : Program} {k e t : TypeId} {wf : κ → Prop} (K : KeyOk P k key wf)
include K
/-- Where a key stands. -/
theorem found (h : MapIs key w b l clock) (hw : ∀ e ∈ l, wf e.1) (x : κ) (hx : wf x) :
    ((Instr.findKey k (key x) (l.map (entOf key))).run P w = .ok none w ∧ get l x = none ∧ ∀ a ∈ l, a.1 ≠ x) ∨
    ∃ (j : Nat) (v : Int) (n : Nat), (Instr.findKey k (key x) (l.map (entOf key))).run P w = .ok (some (j, .int .i64 v)) w ∧ l[j]? = some (x, v, n) := by
  obtain ⟨lx, hlx⟩ := K.lit x hx
  rcases K.keyed.find w hlx (l.map (entOf key)) (keyed_ K hw) with ⟨h1, h2⟩ | ⟨j, e0, h1, h2, h3⟩
  · have hno : ∀ a ∈ l, a.1 ≠ x := fun a ha hax => h2 (entOf key a) (List.mem_map.2 ⟨a, ha, rfl⟩) (by simp [entOf, hax])
    refine .inl ⟨h1, ?_, hno⟩
    unfold get
    rw [List.find?_eq_none.2 fun a ha => by simpa using hno a ha]; rfl
  · rw [List.getElem?_map] at h2
    cases hj : l[j]? with
    | none => rw [hj] at h2; cases h2
    | some a =>
      rw [hj] at h2
      obtain rfl := Option.some.inj h2
      obtain rfl : a.1 = x := K.inj _ _ h3
      exact .inr ⟨j, a.2.1, a.2.2, h1, hj⟩
theorem lookup (ht : P.underlying t = some (.map k e)) (hz : (zeroValue e).run P w = .ok (.int .i64 0) w) (h : MapIs key w b l clock) (hw : ∀ e ∈ l, wf e.1) (hn : (l.map (·.1)).Nodup) (x : κ) (hx : wf x) :
    (Instr.lookup t (.map (some b)) (key x) false).run P w = .ok (.int .i64 ((get l x).getD 0)) w ∧
    (Instr.lookup t (.map (some b)) (key x) true).run P w = .ok (.tuple #[.int .i64 ((get l x).getD 0), .bool (get l x).isSome]) w := by
  obtain ⟨lx, hlx⟩ := K.lit x hx
  rcases found K h hw x hx with ⟨h1, h2, _⟩ | ⟨j, v, n, h1, h2⟩
  · rw [h2]
    constructor <;> simp [Instr.lookup, run_underlying ht, MapKept.run_getObj_map h.blk, K.keyed.check w _ hlx, h1, hz, Result.andThen]
  · rw [get_of hn h2]
    constructor <;> simp [Instr.lookup, run_underlying ht, MapKept.run_getObj_map h.blk, K.keyed.check w _ hlx, h1, Result.andThen]
/-- m[k] op= v: the entry first, then the store. (The map is known anew behind the store; behind the entry look-ups are as they were.) -/
theorem entry (ht : P.underlying t = some (.map k e)) (hz : ∀ u : World, (zeroValue e).run P u = .ok (.int .i64 0) u) (h : MapIs key w b l clock) (hw : ∀ e ∈ l, wf e.1) (hn : (l.map (·.1)).Nodup) (x : κ) (hx : wf x) :
    ∃ (st : Nat) (l1 : List (κ × Int × Nat)) (c1 : Nat), (∀ n, (Instr.mapEntry t (.map (some b)) (key x)).run P (w.drewN n) = .ok (.tuple #[.int .i64 ((get l x).getD 0), .int .i64 (st : Int)]) ((setMap w b (l1.map (entOf key)).toArray c1).drewN n)) ∧
      MapIs key (setMap w b (l1.map (entOf key)).toArray c1) b l1 c1 ∧ (∀ e ∈ l1, wf e.1) ∧ (l1.map (·.1)).Nodup ∧ get l1 x = some ((get l x).getD 0) ∧
      ∀ v n, (Instr.entryStore t (.map (some b)) (.int .i64 (st : Int)) (.int .i64 v)).run P ((setMap w b (l1.map (entOf key)).toArray c1).drewN n) = .ok () ((setMap w b ((put l clock x v).map (entOf key)).toArray (tick l clock x)).drewN n) ∧
        MapIs key (setMap w b ((put l clock x v).map (entOf key)).toArray (tick l clock x)) b (put l clock x v) (tick l clock x) := by
  obtain ⟨lx, hlx⟩ := K.lit x hx
  have hb := h.blk
  have hlt := h.lt
  have hbn : ∀ n, (w.drewN n).heap[b]? = some (.map (l.map (entOf key)).toArray clock) := fun n => hb
  have idxOf : ∀ (m : List (κ × Int × Nat)) (j : Nat) (a : κ × Int × Nat), (m.map (·.2.2)).Nodup → m[j]? = some a → ((m.map (entOf key)).toArray).findIdx? (fun y => ((y.born : Nat) : Int) == ((a.2.2 : Nat) : Int)) = some j := by
    intro m j a hm hj
    rw [Go.WideElems.findIdx_arr]
    refine Go.WideElems.findIdx_born (l := m.map (entOf key)) (j := j) (e0 := entOf key a) ?_ (by rw [List.getElem?_map, hj]; rfl)
    rw [List.map_map]; exact hm
  rcases found K h hw x hx with ⟨h1, h2, h3⟩ | ⟨j, v0, n0, h1, h2⟩
  · have hany : l.any (fun e => decide (e.1 = x)) = false := by
      rw [Bool.eq_false_iff]; intro ha
      obtain ⟨a, ha, hd⟩ := List.any_eq_true.1 ha
      exact h3 a ha (by simpa using hd)
    have hput : ∀ v, put l clock x v = l ++ [(x, v, clock)] := fun v => by unfold put; rw [if_neg (by rw [hany]; decide)]
    have htick : tick l clock x = clock + 1 := by unfold tick; rw [if_neg (by rw [hany]; decide)]
    have hst : ∀ v, MapIs key (setMap w b ((l ++ [(x, v, clock)]).map (entOf key)).toArray (clock + 1)) b (l ++ [(x, v, clock)]) (clock + 1) := fun v => by
      refine ⟨setMap_heap hlt, fun a ha => ?_, ?_⟩
      · rcases List.mem_append.1 ha with ha | ha
        · have := h.born a ha; omega
        · simp at ha; subst ha; simp
      · rw [List.map_append, List.nodup_append]
        refine ⟨h.stamps, by simp, fun a ha c hc e => ?_⟩
        simp at hc
        obtain ⟨y, hy, rfl⟩ := List.mem_map.1 ha
        have := h.born y hy
        omega
    have h1n : ∀ n, (Instr.findKey k (key x) (l.map (entOf key))).run P (w.drewN n) = .ok none (w.drewN n) := fun n => by
      rcases found (w := w.drewN n) K ⟨hbn n, h.born, h.stamps⟩ hw x hx with ⟨h1, _, _⟩ | ⟨j, v, m, _, hj⟩
      · exact h1
      · exact absurd rfl (h3 _ (List.mem_of_getElem? hj))
    refine ⟨clock, l ++ [(x, 0, clock)], clock + 1, fun n => ?_, hst 0, fun a ha => ?_, ?_, ?_, fun v n => ?_⟩
    · rw [h2]
      have : (l.map (entOf key)).toArray.push (⟨key x, .int .i64 0, clock⟩ : MapEntry) = ((l ++ [(x, 0, clock)]).map (entOf key)).toArray := by simp [entOf]
      simp [Instr.mapEntry, run_underlying ht, MapKept.run_getObj_map (hbn n), K.keyed.check (w.drewN n) false hlx, h1n n, hz, MapKept.run_setObj_map _ (hbn n), Result.andThen, setMap, Go.ChangeMaps.setBlock, goInt, entOf]
      rfl
    · rcases List.mem_append.1 ha with ha | ha
      · exact hw a ha
      · simp at ha; subst ha; exact hx
    · have := keys_put hn clock x 0
      rw [hput] at this; exact this
    · have := get_put l clock x x 0
      rw [hput, if_pos rfl] at this
      rw [this, h2]; rfl
    · rw [hput, htick]
      refine ⟨?_, hst v⟩
      have hidx := idxOf (l ++ [(x, 0, clock)]) l.length (x, 0, clock) (hst 0).stamps (by simp)
      have hmod : ((l ++ [(x, 0, clock)]).map (entOf key)).toArray.modify l.length (fun e => { e with val := Value.int .i64 v }) = ((l ++ [(x, v, clock)]).map (entOf key)).toArray := by
        apply Array.ext'
        rw [Array.toList_modify]
        have hlen : l.length = (l.map (entOf key)).length := by simp
        rw [hlen]
        simp only [List.map_append, List.map_cons, List.map_nil]
        rw [Go.WideElems.modify_last]
        rfl
      have hb1 : ((setMap w b ((l ++ [(x, 0, clock)]).map (entOf key)).toArray (clock + 1)).drewN n).heap[b]? = some (.map ((l ++ [(x, 0, clock)]).map (entOf key)).toArray (clock + 1)) := setMap_heap hlt
      have hrun : (Instr.entryStore t (.map (some b)) (goInt clock) (.int .i64 v)).run P ((setMap w b ((l ++ [(x, 0, clock)]).map (entOf key)).toArray (clock + 1)).drewN n) = .ok () (setMap ((setMap w b ((l ++ [(x, 0, clock)]).map (entOf key)).toArray (clock + 1)).drewN n) b ((l ++ [(x, v, clock)]).map (entOf key)).toArray (clock + 1)) := by
        rw [← hmod]
        simp only [Instr.entryStore, Sem.run_bind, MapKept.run_getObj_map hb1, Result.andThen_ok, asInt, asIntOf, goInt, Sem.run_pure]
        rw [hidx]
        exact MapKept.run_setObj_map _ hb1
      refine hrun.trans ?_
      simp [setMap, Go.ChangeMaps.setBlock, World.drewN]
  · have hany : l.any (fun e => decide (e.1 = x)) = true := List.any_eq_true.2 ⟨_, List.mem_of_getElem? h2, by simp⟩
    have hput : ∀ v, put l clock x v = l.map (fun e => if e.1 = x then (e.1, v, e.2.2) else e) := fun v => by unfold put; rw [if_pos hany]
    have htick : tick l clock x = clock := by unfold tick; rw [if_pos hany]
    have hget := get_of hn h2
    have hset : ∀ v, l.map (fun e => if e.1 = x then (e.1, v, e.2.2) else e) = l.set j (x, v, n0) := by
      intro v
      refine List.ext_getElem? fun i => ?_
      rw [List.getElem?_map]
      by_cases hij : j = i
      · subst hij
        rw [h2, List.getElem?_set_self (List.getElem?_eq_some_iff.1 h2).1]
        simp
      · rw [List.getElem?_set_ne hij]
        cases hi : l[i]? with
        | none => rfl
        | some a =>
          have : a.1 ≠ x := by
            intro hax
            have hi' := (List.getElem?_eq_some_iff.1 hi)
            have hj' := (List.getElem?_eq_some_iff.1 h2)
            have e1 : (l.map (·.1))[i]? = (l.map (·.1))[j]? := by rw [List.getElem?_map, List.getElem?_map, hi, h2]; simp [hax]
            obtain ⟨hl1, _⟩ := hi'
            obtain ⟨hl2, _⟩ := hj'
            have := (List.getElem?_inj (by simpa using hl1) hn).1 e1
            exact hij this.symm
          simp [this]
    have h1n : ∀ n, (Instr.findKey k (key x) (l.map (entOf key))).run P (w.drewN n) = .ok (some (j, .int .i64 v0)) (w.drewN n) := fun n => by
      rcases found (w := w.drewN n) K ⟨hbn n, h.born, h.stamps⟩ hw x hx with ⟨_, _, h3⟩ | ⟨j', v, m, h1', hj⟩
      · exact absurd rfl (h3 (x, v0, n0) (List.mem_of_getElem? h2))
      · have e1 : (l.map (·.1))[j']? = (l.map (·.1))[j]? := by rw [List.getElem?_map, List.getElem?_map, hj, h2]; rfl
        have := (List.getElem?_inj (by simpa using (List.getElem?_eq_some_iff.1 hj).1) hn).1 e1
        subst this
        rw [h2] at hj
        injection hj with hj
        injection hj with _ hj
        injection hj with hj1 _
        rw [h1', hj1]
    have hst : ∀ v, MapIs key (setMap w b ((l.set j (x, v, n0)).map (entOf key)).toArray clock) b (l.set j (x, v, n0)) clock := fun v => by
      refine ⟨setMap_heap hlt, fun a ha => ?_, ?_⟩
      · rcases List.mem_or_eq_of_mem_set ha with ha | ha
        · exact h.born a ha
        · rw [ha]; exact h.born (x, v0, n0) (List.mem_of_getElem? h2)
      · rw [List.map_set]
        have : (l.map (·.2.2)).set j n0 = l.map (·.2.2) := by
          have hlj := (List.getElem?_eq_some_iff.1 h2)
          obtain ⟨hl1, hl2⟩ := hlj
          have e : (l.map (·.2.2))[j]'(by simpa using hl1) = n0 := by rw [List.getElem_map, hl2]
          conv => lhs; rw [← e]
          exact List.set_getElem_self _
        rw [this]; exact h.stamps
    refine ⟨n0, l, clock, fun n => ?_, ⟨setMap_heap hlt, h.born, h.stamps⟩, hw, hn, by rw [hget]; rfl, fun v n => ?_⟩
    · rw [hget]
      have hj : (l.map (entOf key)).toArray[j]? = some (entOf key (x, v0, n0)) := by simp [h2]
      have hsame : (l.map (entOf key)).toArray.modify j (fun e => { e with key := key x }) = (l.map (entOf key)).toArray := by
        apply Array.ext'
        rw [Array.toList_modify, Go.ChangeMaps.modify_eq_set _ _ _ _ (by rw [List.getElem?_map, h2]; rfl)]
        exact Go.WideElems.set_self _ _ _ (by rw [List.getElem?_map, h2]; rfl)
      have hke : (entOf key (x, v0, n0)).key = key x := rfl
      have hbo : (entOf key (x, v0, n0)).born = n0 := rfl
      simp only [Instr.mapEntry, Sem.run_bind, run_underlying ht, Result.andThen_ok, MapKept.run_getObj_map (hbn n), K.keyed.check (w.drewN n) false hlx, h1n n, hj, Option.map_some, Option.getD_some, hke, K.keyed.stays (w.drewN n) hlx, hsame, MapKept.run_setObj_map _ (hbn n), hbo, Sem.run_pure]
      rfl
    · rw [hput, htick, hset]
      refine ⟨?_, hst v⟩
      have hidx := idxOf l j (x, v0, n0) h.stamps h2
      have hmod : (l.map (entOf key)).toArray.modify j (fun e => { e with val := Value.int .i64 v }) = ((l.set j (x, v, n0)).map (entOf key)).toArray := by
        apply Array.ext'
        rw [Array.toList_modify, Go.ChangeMaps.modify_eq_set _ _ _ _ (by rw [List.getElem?_map, h2]; rfl), List.map_set]
        rfl
      have hb1 : ((setMap w b (l.map (entOf key)).toArray clock).drewN n).heap[b]? = some (.map (l.map (entOf key)).toArray clock) := setMap_heap hlt
      have hrun : (Instr.entryStore t (.map (some b)) (goInt n0) (.int .i64 v)).run P ((setMap w b (l.map (entOf key)).toArray clock).drewN n) = .ok () (setMap ((setMap w b (l.map (entOf key)).toArray clock).drewN n) b ((l.set j (x, v, n0)).map (entOf key)).toArray clock) := by
        rw [← hmod]
        simp only [Instr.entryStore, Sem.run_bind, MapKept.run_getObj_map hb1, Result.andThen_ok, asInt, asIntOf, goInt, Sem.run_pure]
        rw [hidx]
        exact MapKept.run_setObj_map _ hb1
      refine hrun.trans ?_
      simp [setMap, Go.ChangeMaps.setBlock, World.drewN]
end MapIs
end Go.Proofs.Yticfnngppcmidaa
