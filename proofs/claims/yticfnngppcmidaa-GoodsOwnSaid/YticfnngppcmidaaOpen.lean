/-
  Arguments of whatever shape, opened: what the cells of a value that came in hold, told by a shape that mirrors its type.
-/
import Derived.Deep.Slices
import Derived.Deep.Fields
import Derived.ChangeSame
import Derived.SizedLaws
import Derived.OpenShut
import Derived.WalkKit
set_option linter.unusedVariables false
namespace Go.Proofs.Yticfnngppcmidaa
open Go.ChangeShapes Go.WideShapes Go.Deep Go.RowKit

/-- The shape of a type: a struct is a chain of its fields. -/
inductive Sh where
  | int (k : IntKind)
  | bool
  | str
  | slice (e : Sh) (bytes : Nat)
  | nil
  | cons (a b : Sh)
def Sh.size : Sh → Nat
  | .int _ | .bool | .str | .slice _ _ => 1
  | .nil => 0
  | .cons a b => a.size + b.size
/-- A struct's fields, or an array's elements: each one's type and where it begins. -/
def partsOf (P : Program) (t : TypeId) : Option (List (TypeId × Nat)) :=
  match P.underlying t with
  | some (.struct fs) => some (fs.toList.map fun f => (f.type, f.offset))
  | some (.array n e) => some ((List.range n).map fun i => (e, i * P.cellsOf e))
  | _ => none
/-- Does a type have this shape? (A struct's fields from an offset on: the right side.) -/
def Sh.fit (P : Program) : Sh → TypeId ⊕ (Nat × List (TypeId × Nat)) → Bool
  | .int k, .inl t => match P.underlying t with | some (.int k') => decide (k' = k) | _ => false
  | .bool, .inl t => match P.underlying t with | some .bool => true | _ => false
  | .str, .inl t => match P.underlying t with | some .string => true | _ => false
  | .slice e by_, .inl t => match P.underlying t with | some (.slice u) => P.cellsOf u == e.size && P.bytesOf u == by_ && e.fit P (.inl u) | _ => false
  | .nil, .inl t => P.cellsOf t == 0 && (match P.underlying t with | some (.struct _) => true | some (.array ..) => true | _ => false)
  | .cons a b, .inl t => P.cellsOf t == a.size + b.size && (match partsOf P t with
      | some ((u, o) :: r) => o == 0 && P.cellsOf u == a.size && a.fit P (.inl u) && b.fit P (.inr (a.size, r))
      | _ => false)
  | .nil, .inr (_, fs) => fs.isEmpty
  | .cons a b, .inr (off, fs) => match fs with
    | (u, o) :: r => o == off && P.cellsOf u == a.size && a.fit P (.inl u) && b.fit P (.inr (off + a.size, r))
    | [] => false
  | _, .inr _ => false
/-- What cells of a shape hold. -/
def Sh.Ok (w : World) : Sh → List Value → Prop
  | .int k, cs => ∃ n, cs = [.int k n] ∧ (Lit.int k n).wf = true
  | .bool, cs => ∃ b, cs = [.bool b]
  | .str, cs => ∃ s : ByteArray, cs = [.string s] ∧ s.size ≤ maxLen ∧ s.size ≤ 140737488351232
  | .slice e by_, cs => cs = [.slice none 0 0] ∨ ∃ (a : Addr) (len cap : Nat), cs = [.slice (some a) len cap] ∧ len ≤ cap ∧ cap ≤ maxLen ∧ cap * by_ ≤ 140737488351232 ∧
      ∀ i, i < cap → ∃ es : List Value, es.length = e.size ∧ (∀ j v, es[j]? = some v → w.cell? (a.add (i * e.size + j)) = some v) ∧ e.Ok w es
  | .nil, cs => cs = []
  | .cons a b, cs => ∃ xs ys, cs = xs ++ ys ∧ xs.length = a.size ∧ ys.length = b.size ∧ a.Ok w xs ∧ b.Ok w ys
variable {H : Type} {enc : TypeId × Value → H} {P : Program} {w : World} {base : Nat} {held : Bool}
theorem weights_all {e : TypeId} {l : List (DataW H)} {d : DataW H} (h : d ∈ l) : ∀ n ∈ d.weights P e, n ∈ DataW.weightsAll P e l := by
  induction l with
  | nil => cases h
  | cons x r ih =>
    intro n hn
    simp only [DataW.weightsAll, List.mem_append]
    rcases List.mem_cons.1 h with rfl | h
    · exact .inl hn
    · exact .inr (ih h n hn)
/-- The parts of a struct or an array from some place on. -/
def FieldsAt (enc : TypeId × Value → H) (P : Program) (w : World) (base : Nat) (held : Bool) (n : Nat) (cs : List Value) (fs : List (TypeId × Nat)) (xs : List (DataW H × List MemPlace)) : Prop :=
  xs.length = fs.length ∧ ∀ (i : Nat) (f : TypeId × Nat), fs[i]? = some f → DataW.trod enc P w base (fun _ => true) held n f.1 ((cs.drop f.2).take (P.cellsOf f.1)) = xs[i]?
theorem FieldsAt.cons {n : Nat} {cs : List Value} {f : TypeId × Nat} {r : List (TypeId × Nat)} {xs : List (DataW H × List MemPlace)} (h : FieldsAt enc P w base held n cs (f :: r) xs) :
    ∃ x ys, xs = x :: ys ∧ DataW.trod enc P w base (fun _ => true) held n f.1 ((cs.drop f.2).take (P.cellsOf f.1)) = some x ∧ FieldsAt enc P w base held n cs r ys := by
  obtain ⟨hl, hf⟩ := h
  match xs, hl with
  | x :: ys, hl =>
    refine ⟨x, ys, rfl, hf 0 f rfl, by simpa using hl, fun i g hg => ?_⟩
    exact hf (i + 1) g hg
def Goal (P : Program) (w : World) (sh : Sh) : TypeId ⊕ (Nat × List (TypeId × Nat)) → Prop
  | .inl t => ∀ (H : Type) (enc : TypeId × Value → H) (base : Nat) (held : Bool) (fuel : Nat) (cs : List Value) (x : DataW H × List MemPlace), DataW.trod enc P w base (fun _ => true) held fuel t cs = some x → (∀ n ∈ x.1.weights P t, n ≤ reachBytes) → cs.length = sh.size ∧ sh.Ok w cs
  | .inr (off, fs) => ∀ (H : Type) (enc : TypeId × Value → H) (base : Nat) (held : Bool) (n : Nat) (cs : List Value) (xs : List (DataW H × List MemPlace)), FieldsAt enc P w base held n cs fs xs → cs.length = off + sh.size → (∀ n ∈ DataW.weightsEach P (fs.map (·.1)) (xs.map (·.1)), n ≤ reachBytes) → sh.Ok w (cs.drop off)
theorem Goal.fields {a b : Sh} (iha : ∀ t, a.fit P t = true → Goal P w a t) (ihb : ∀ t, b.fit P t = true → Goal P w b t) {off : Nat} {f : TypeId × Nat} {r : List (TypeId × Nat)} (h1 : f.2 = off) (h2 : P.cellsOf f.1 = a.size) (h3 : a.fit P (.inl f.1) = true) (h4 : b.fit P (.inr (off + a.size, r)) = true) :
    Goal P w (.cons a b) (.inr (off, f :: r)) := by
  intro H enc base held n cs xs hx hl hw
  obtain ⟨x, ys, rfl, ht, hr⟩ := hx.cons
  have ha := iha _ h3 H enc base held n _ x ht (fun m hm => hw m (by simp only [List.map_cons, DataW.weightsEach, List.mem_append]; exact .inl hm))
  have hsz : (Sh.cons a b).size = a.size + b.size := rfl
  have hb := ihb _ h4 H enc base held n cs ys hr (by omega) (fun m hm => hw m (by simp only [List.map_cons, DataW.weightsEach, List.mem_append]; exact .inr hm))
  rw [h1, h2] at ha
  refine ⟨_, _, ?_, ha.1, ?_, ha.2, hb⟩
  · rw [← List.drop_drop, List.take_append_drop]
  · rw [List.length_drop]; omega
theorem weights_same {e : TypeId} : ∀ (l : List (DataW H)) (ts : List TypeId), ts.length = l.length → (∀ t ∈ ts, t = e) → DataW.weightsEach P ts l = DataW.weightsAll P e l
  | [], [], _, _ => rfl
  | d :: l, t :: ts, h, ht => by
    rw [DataW.weightsEach, DataW.weightsAll, ht t (by simp), weights_same l ts (by simpa using h) (fun u hu => ht u (by simp [hu]))]
  | [], _ :: _, h, _ => by simp at h
  | _ :: _, [], h, _ => by simp at h
/-- A struct or an array that was read: its parts were. -/
theorem trod_parts {t : TypeId} {fs : List (TypeId × Nat)} {fuel : Nat} {cs : List Value} {x : DataW H × List MemPlace} (hp : partsOf P t = some fs) (h : DataW.trod enc P w base (fun _ => true) held fuel t cs = some x) :
    cs.length = P.cellsOf t ∧ ∃ (xs : List (DataW H × List MemPlace)) (n : Nat), FieldsAt enc P w base held n cs fs xs ∧ x.1.weights P t = DataW.weightsEach P (fs.map (·.1)) (xs.map (·.1)) := by
  unfold partsOf at hp
  split at hp
  · rename_i gs hu
    obtain rfl := Option.some.inj hp
    obtain ⟨xs, n, _, rfl, hl, hlen, hf⟩ := DataW.trod_struct hu h
    refine ⟨hl, xs, n, ⟨by rw [hlen]; simp, fun i f hg => ?_⟩, ?_⟩
    · rw [List.getElem?_map] at hg
      match hgs : gs.toList[i]?, hg with
      | some g, hg =>
        obtain rfl := Option.some.inj hg
        exact hf i g (by rw [← Array.getElem?_toList]; exact hgs)
    · simp only [DataW.weights, hu, List.map_map]
      rfl
  · rename_i m e hu
    obtain rfl := Option.some.inj hp
    obtain ⟨xs, n, _, rfl, hl, hlen, hf⟩ := DataW.trod_array hu h
    refine ⟨hl, xs, n, ⟨by rw [hlen]; simp, fun i f hg => ?_⟩, ?_⟩
    · rw [List.getElem?_map] at hg
      have hi : i < m := by
        rcases Nat.lt_or_ge i m with h | h
        · exact h
        · rw [List.getElem?_eq_none (by simpa using h)] at hg; cases hg
      rw [List.getElem?_range hi] at hg
      obtain rfl := Option.some.inj hg
      exact hf i hi
    · simp only [DataW.weights, hu]
      rw [weights_same (e := e)]
      · simp [hlen]
      · intro u hu; simp at hu; exact hu.2.symm
  · cases hp
theorem goal_of_fit (P : Program) (w : World) : ∀ (sh : Sh) (t : TypeId ⊕ (Nat × List (TypeId × Nat))), sh.fit P t = true → Goal P w sh t
  | .int k, .inl t, h => by
    intro H enc base held fuel cs x ht _
    unfold Sh.fit at h
    split at h
    · rename_i k' hu
      obtain rfl : k' = k := of_decide_eq_true h
      cases fuel with
      | zero => simp [DataW.trod] at ht
      | succ n =>
        unfold DataW.trod at ht
        rw [hu] at ht
        split at ht <;> simp_all
        exact ⟨rfl, _, rfl, ht.1.2⟩
    · cases h
  | .bool, .inl t, h => by
    intro H enc base held fuel cs x ht _
    unfold Sh.fit at h
    split at h
    · rename_i hu
      cases fuel with
      | zero => simp [DataW.trod] at ht
      | succ n =>
        unfold DataW.trod at ht
        rw [hu] at ht
        split at ht <;> simp_all
        exact ⟨rfl, _, rfl⟩
    · cases h
  | .str, .inl t, h => by
    intro H enc base held fuel cs x ht hw
    unfold Sh.fit at h
    split at h
    · rename_i hu
      cases fuel with
      | zero => simp [DataW.trod] at ht
      | succ n =>
        unfold DataW.trod at ht
        rw [hu] at ht
        split at ht <;> simp_all
        obtain ⟨h1, rfl⟩ := ht
        refine ⟨rfl, _, rfl, h1, ?_⟩
        simpa [DataW.weights, reachBytes] using hw
    · cases h
  | .slice e by_, .inl t, h => by
    intro H enc base held fuel cs x ht hw
    unfold Sh.fit at h
    split at h
    · rename_i u hu
      simp only [Bool.and_eq_true, beq_iff_eq] at h
      obtain ⟨⟨h1, h2⟩, h3⟩ := h
      rcases open_slice hu ht with ⟨rfl, _⟩ | ⟨a, len, cap, m, n, D, Pl, rfl, _, hl, hm, hmm, rfl, hi⟩
      · exact ⟨rfl, .inl rfl⟩
      · simp only [if_true] at hmm
        subst hmm
        refine ⟨rfl, .inr ⟨a, len, m, rfl, hl, hm, ?_, fun i him => ?_⟩⟩
        · have := hw ((((List.range len).map D).length + ((List.range (m - len)).map fun j => D (len + j)).length) * P.bytesOf u) (by simp [DataW.weights, hu])
          rw [h2] at this
          simp only [List.length_map, List.length_range, reachBytes] at this
          rw [show len + (m - len) = m from by omega] at this
          exact this
        · obtain ⟨cs', hc, ht'⟩ := hi i him
          have hg := goal_of_fit P w e (.inl u) h3 H enc base held n cs' _ ht' (fun k hk => hw k (by
            simp only [DataW.weights, hu, List.mem_cons, List.mem_append]
            right
            by_cases hil : i < len
            · exact .inl (weights_all (List.mem_map.2 ⟨i, List.mem_range.2 hil, rfl⟩) k hk)
            · exact .inr (weights_all (List.mem_map.2 ⟨i - len, List.mem_range.2 (by omega), by rw [show len + (i - len) = i from by omega]⟩) k hk)))
          obtain ⟨_, hcl, hat⟩ := World.cells?_some hc
          refine ⟨cs', hg.1, fun j v hv => ?_, hg.2⟩
          have hj : j < P.cellsOf u := by have := (List.getElem?_eq_some_iff.1 hv).1; omega
          rw [h1] at hat hj
          rw [← Go.Deep.add_add, hat j hj, hv]
    · cases h
  | .nil, .inl t, h => by
    intro H enc base held fuel cs x ht hw
    unfold Sh.fit at h
    simp only [Bool.and_eq_true, beq_iff_eq] at h
    obtain ⟨h0, h1⟩ := h
    have hp : ∃ fs, partsOf P t = some fs := by
      unfold partsOf
      split at h1
      · exact ⟨_, rfl⟩
      · exact ⟨_, rfl⟩
      · cases h1
    obtain ⟨fs, hp⟩ := hp
    have hl := (trod_parts hp ht).1
    rw [h0] at hl
    exact ⟨hl, List.eq_nil_of_length_eq_zero hl⟩
  | .cons a b, .inl t, h => by
    intro H enc base held fuel cs x ht hw
    unfold Sh.fit at h
    simp only [Bool.and_eq_true, beq_iff_eq] at h
    obtain ⟨h0, h⟩ := h
    split at h
    · rename_i u o r hp
      obtain ⟨hl, xs, n, hx, he⟩ := trod_parts hp ht
      rw [h0] at hl
      refine ⟨hl, ?_⟩
      simp only [Bool.and_eq_true, beq_iff_eq] at h
      obtain ⟨⟨⟨h1, h2⟩, h3⟩, h4⟩ := h
      have h4 : b.fit P (.inr (0 + a.size, r)) = true := by rw [Nat.zero_add]; exact h4
      exact Goal.fields (w := w) (f := (u, o)) (fun t ht => goal_of_fit P w a t ht) (fun t ht => goal_of_fit P w b t ht) h1 h2 h3 h4 H enc base held n cs xs hx (by rw [hl]; show _ = 0 + (a.size + b.size); omega) (fun m hm => hw m (by rw [he]; exact hm))
    · cases h
  | .nil, .inr (off, fs), h => by
    intro H enc base held n cs xs hx hl hw
    exact List.eq_nil_of_length_eq_zero (by rw [List.length_drop, hl]; simp [Sh.size])
  | .cons a b, .inr (off, fs), h => by
    unfold Sh.fit at h
    split at h
    · rename_i u o r
      simp only [Bool.and_eq_true, beq_iff_eq] at h
      obtain ⟨⟨⟨h1, h2⟩, h3⟩, h4⟩ := h
      exact Goal.fields (f := (u, o)) (fun t ht => goal_of_fit P w a t ht) (fun t ht => goal_of_fit P w b t ht) h1 h2 h3 h4
    · cases h
  | .int _, .inr _, h => by simp [Sh.fit] at h
  | .bool, .inr _, h => by simp [Sh.fit] at h
  | .str, .inr _, h => by simp [Sh.fit] at h
  | .slice _ _, .inr _, h => by simp [Sh.fit] at h
/-- An argument, opened. -/
theorem ok_of_arg {ts : List TypeId} {ds : List (DataW H)} (sh : Sh) {j : Nat} {t : TypeId} {v : Value} {d : DataW H} {p : List MemPlace} (hfit : sh.fit P (.inl t) = true)
    (hsz : (DataW.weightsEach P ts ds).all (· ≤ reachBytes) = true) (ht : ts[j]? = some t) (hd : ds[j]? = some d) (h : DataW.Trod enc P w base (fun _ => true) held t v d p) :
    v.cells.toList.length = sh.size ∧ sh.Ok w v.cells.toList := by
  obtain ⟨fuel, hf⟩ := h
  exact goal_of_fit P w sh (.inl t) hfit H enc base held fuel _ (d, p) hf (fun n hn => by
    have := List.all_eq_true.1 hsz _ (DataW.weights_mem_each ht hd n hn)
    simpa using this)
/-- A list of what there is, one by one. -/
theorem list_of {α : Type} (n : Nat) (p : Nat → α → Prop) (h : ∀ i, i < n → ∃ x, p i x) : ∃ l : List α, l.length = n ∧ ∀ i (hi : i < l.length), p i l[i] := by
  induction n with
  | zero => exact ⟨[], rfl, fun i hi => absurd hi (by simp)⟩
  | succ n ih =>
    obtain ⟨l, hl, hp⟩ := ih (fun i hi => h i (by omega))
    obtain ⟨x, hx⟩ := h n (by omega)
    refine ⟨l ++ [x], by simp [hl], fun i hi => ?_⟩
    by_cases hin : i < l.length
    · rw [List.getElem_append_left hin]; exact hp i hin
    · have : i = n := by simp at hi; omega
      subst this
      rw [List.getElem_append_right (by omega)]
      simpa [hl] using hx
end Go.Proofs.Yticfnngppcmidaa
