/-
  slices.Insert of one number into a slice of numbers of one's own, from the shelf's contracts.
-/
import Derived.Test.YtffjpfpbpnhmcaaGolC
import Derived.Shelf.Spec.SlicesInsertGrow
import Derived.Shelf.Slices.SearchI
import Derived.Shelf.Slices.Empties
set_option linter.unusedVariables false
set_option linter.unusedSimpArgs false
namespace Go.Proofs.Ytffjpfpbpnhmcaa
open Go.RowKit

/-- Where a number stands, or would stand, in a rising list. -/
def binI (l : List Int) (x : Int) : Nat := l.countP fun y => decide (y < x)
/-! slices.Insert -/
def encI' (n : Int) : Value := .int .i64 n
theorem flat_ints {w : World} {B : Nat} : ∀ {ps : List (List Nat × List Value)} {l : List Int}, All2 (fun x a => repI.own w B x.1 x.2 a) ps l → (ps.map (·.2)).flatten = l.map encI' ∧ ∀ x ∈ l, okI x
  | [], [], _ => ⟨rfl, by simp⟩
  | p :: ps, a :: l, h => by
    obtain ⟨⟨_, h1, h2⟩, h3⟩ := h
    obtain ⟨e, ho⟩ := flat_ints h3
    refine ⟨by rw [List.map_cons, List.flatten_cons, e, h1]; rfl, fun x hx => ?_⟩
    rcases List.mem_cons.1 hx with rfl | hx
    · exact h2
    · exact ho x hx
  | [], _ :: _, h => h.elim
  | _ :: _, [], h => h.elim
theorem all_ints {w : World} : ∀ {l : List Int}, (∀ x ∈ l, okI x) → All2 (fun es a => repI.has w es a) (l.map fun n => [encI' n]) l
  | [], _ => trivial
  | a :: l, h => ⟨⟨rfl, h a List.mem_cons_self⟩, all_ints fun x hx => h x (List.mem_cons_of_mem _ hx)⟩
theorem flat_sing (l : List Int) : (l.map fun n => [encI' n]).flatten = l.map encI' := by
  induction l with
  | nil => rfl
  | cons a l ih => rw [List.map_cons, List.flatten_cons, ih]; rfl
theorem ints_open {w : World} {B c g : Nat} {l : List Int} (h : repI.SOwn 3 8 w B (Rep.blkOf (some ⟨g, 0, none⟩)) (some ⟨g, 0, none⟩) c l) :
    ∃ cur : List Value, Blk w g cur 3 (0, 0) ∧ B ≤ g ∧ c ≤ maxLen ∧ cur.length = c ∧ l.length ≤ c ∧ cur.take l.length = l.map encI' ∧ (∀ u ∈ cur, ∃ n : Int, u = .int .i64 n) ∧ ∀ x ∈ l, okI x := by
  obtain ⟨hb, ps, hf, hn, ho, hall⟩ := h
  obtain ⟨e, hok⟩ := flat_ints hall
  rw [e] at ho
  obtain ⟨_, h2⟩ := ho
  rcases h2 with ⟨h2, _⟩ | ⟨g', cap, cur, hv, hB, hh, hnc, hcm, hs, ht, hG⟩
  · cases h2
  · injection hv with e1 e2 e3
    injection e1 with e1
    injection e1 with e1
    subst e1 e3
    refine ⟨cur.toList, hh, hB, hcm, by have hs : cur.size = c * 1 := hs; rw [Nat.mul_one] at hs; simpa using hs, hnc, by have ht : cur.toList.take (l.length * 1) = _ := ht; rwa [Nat.mul_one] at ht, fun u hu => ?_, hok⟩
    obtain ⟨j, hj, rfl⟩ := List.mem_iff_getElem.1 hu
    exact hG j _ (by rw [← Array.getElem?_toList, List.getElem?_eq_getElem hj])
theorem ints_close {w : World} {B c g : Nat} {l : List Int} {cur : List Value} (h : Blk w g cur 3 (0, 0)) (hB : B ≤ g) (hcm : c ≤ maxLen) (hs : cur.length = c) (hn : l.length ≤ c) (hb : l.length * 8 ≤ 140737488355328) (ht : cur.take l.length = l.map encI') (hG : ∀ u ∈ cur, ∃ n : Int, u = .int .i64 n) (hok : ∀ x ∈ l, okI x) :
    repI.SOwn 3 8 w B (Rep.blkOf (some ⟨g, 0, none⟩)) (some ⟨g, 0, none⟩) c l := by
  refine Rep.SOwn.of_plain Rep.flat_plain (all_ints hok) hb ?_
  rw [flat_sing]
  refine ⟨by rw [List.length_map]; exact (Nat.mul_one _).symm, .inr ⟨g, c, cur.toArray, rfl, hB, h, hn, hcm, by rw [List.size_toArray, hs]; exact (Nat.mul_one _).symm, ?_, fun j u hu => ?_⟩⟩
  · show cur.toArray.toList.take (l.length * 1) = _
    rw [Nat.mul_one]; exact ht
  · exact hG u (by rw [List.getElem?_toArray] at hu; exact List.mem_of_getElem? hu)
def setL (cur : List Value) : Nat → List Value → List Value
  | _, [] => cur
  | o, v :: r => setL (cur.set o v) (o + 1) r
theorem Blk.setCells {g : Nat} {e : TypeId} : ∀ (zs : List Value) (o : Nat) (w : World) (cur : List Value), Blk w g cur e (0, 0) → Blk (w.setCells g o zs) g (setL cur o zs) e (0, 0)
  | [], _, _, _, h => h
  | v :: r, o, w, cur, h => Blk.setCells r (o + 1) _ _ (h.set o v)
theorem setL_eq : ∀ (zs : List Value) (o : Nat) (cur : List Value), o + zs.length ≤ cur.length → setL cur o zs = cur.take o ++ zs ++ cur.drop (o + zs.length)
  | [], o, cur, _ => by simp [setL]
  | v :: r, o, cur, h => by
    rw [List.length_cons] at h
    rw [setL, setL_eq r (o + 1) _ (by rw [List.length_set]; omega), List.length_cons, List.drop_set_of_lt (by omega), show o + 1 + r.length = o + (r.length + 1) by omega]
    have : (cur.set o v).take (o + 1) = cur.take o ++ [v] := by
      rw [List.take_succ_eq_append_getElem (by rw [List.length_set]; omega), List.take_set_of_le (Nat.le_refl _), List.getElem_set_self]
    rw [this]; simp
theorem setL_mem {u : Value} : ∀ (zs : List Value) (o : Nat) (cur : List Value), u ∈ setL cur o zs → u ∈ cur ∨ u ∈ zs
  | [], _, _, h => .inl h
  | v :: r, o, cur, h => by
    rcases setL_mem r (o + 1) _ h with h | h
    · rcases List.mem_or_eq_of_mem_set h with h | rfl
      · exact .inl h
      · exact .inr List.mem_cons_self
    · exact .inr (List.mem_cons_of_mem _ h)
theorem setL_len : ∀ (zs : List Value) (o : Nat) (cur : List Value), (setL cur o zs).length = cur.length
  | [], _, _ => rfl
  | v :: r, o, cur => by rw [setL, setL_len r, List.length_set]
theorem mem_enc {l : List Int} {u : Value} (h : u ∈ l.map encI') : ∃ n : Int, u = .int .i64 n := by
  obtain ⟨n, _, rfl⟩ := List.mem_map.1 h; exact ⟨n, rfl⟩
theorem one_enc {l : List Int} : ∀ v ∈ l.map encI', v.oneCell' = true := fun v hv => by obtain ⟨n, rfl⟩ := mem_enc hv; rfl
theorem Mod.cells (g : Nat) : ∀ (zs : List Value) (o : Nat) (w : World), Mod [g] w (w.setCells g o zs)
  | [], _, w => Mod.of_ext (Ext.rf w)
  | v :: r, o, w => by
    rw [World.setCells]
    exact (Mod.setCell w ⟨g, o, none⟩ v).trans (Mod.cells g r (o + 1) _)
end Go.Proofs.Ytffjpfpbpnhmcaa
