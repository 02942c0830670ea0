/-
  slices.Insert of one number into a slice of numbers of one's own, from the shelf's contracts.
-/
import Derived.Test.YtfabhinehfhndaaGolC
import Derived.Shelf.Spec.SlicesInsertGrow
import Derived.Shelf.Slices.SearchI
import Derived.Shelf.Slices.Empties
set_option linter.unusedVariables false
set_option linter.unusedSimpArgs false
namespace Go.Proofs.Ytfabhinehfhndaa
open Go.RowKit

def insRen : Go.Shelf.Ren := ⟨fun | 21 => 91 | 27 => 112 | 28 => 113 | 35 => 120 | 39 => 124 | n => n, fun | 22 => 38 | 3 => 3 | 4 => 4 | 0 => 0 | n => n, fun | n => n⟩
theorem laysIns : Go.Proofs.Lays2.n21 Try.prog insRen := {
  mixed := by kernel_rfl
  f21 := Try.func91.trans (congrArg some (by kernel_rfl))
  f27 := Try.func112.trans (congrArg some (by kernel_rfl))
  f28 := Try.func113.trans (congrArg some (by kernel_rfl))
  f35 := Try.func120.trans (congrArg some (by kernel_rfl))
  f39 := Try.func124.trans (congrArg some (by kernel_rfl))
  t0 := Try.underlying0
  a0 := Try.isAgg0
  z0 := Try.sizeOf0
  v0 := Try.zeroValue0
  t3 := Try.underlying3
  a3 := Try.isAgg3
  z3 := Try.sizeOf3
  v3 := Try.zeroValue3
  t4 := Try.underlying4
  a4 := Try.isAgg4
  z4 := Try.sizeOf4
  v4 := Try.zeroValue4
  t22 := Try.underlying38
  a22 := Try.isAgg38
  z22 := Try.sizeOf38
  v22 := Try.zeroValue38
  i3 := by kernel_rfl }
def srcRen : Go.Shelf.Ren := ⟨fun | 25 => 90 | 31 => 110 | 32 => 111 | 37 => 119 | n => n, fun | 22 => 38 | 3 => 3 | 4 => 4 | 40 => 119 | 0 => 0 | n => n, fun | n => n⟩
theorem laysSrc : Go.Proofs.Lays2.n25 Try.prog srcRen := {
  mixed := by kernel_rfl
  f25 := Try.func90.trans (congrArg some (by kernel_rfl))
  f31 := Try.func110.trans (congrArg some (by kernel_rfl))
  f32 := Try.func111.trans (congrArg some (by kernel_rfl))
  f37 := Try.func119.trans (congrArg some (by kernel_rfl))
  t0 := Try.underlying0
  a0 := Try.isAgg0
  z0 := Try.sizeOf0
  v0 := Try.zeroValue0
  t3 := Try.underlying3
  a3 := Try.isAgg3
  z3 := Try.sizeOf3
  v3 := Try.zeroValue3
  t4 := Try.underlying4
  a4 := Try.isAgg4
  z4 := Try.sizeOf4
  v4 := Try.zeroValue4
  t22 := Try.underlying38
  a22 := Try.isAgg38
  z22 := Try.sizeOf38
  v22 := Try.zeroValue38
  t40 := Try.underlying119
  a40 := Try.isAgg119
  z40 := Try.sizeOf119
  v40 := Try.zeroValue119 }
/-- Where a number stands, or would stand, in a rising list. -/
def binI (l : List Int) (x : Int) : Nat := l.countP fun y => decide (y < x)
theorem binI_le (l : List Int) (x : Int) : binI l x ≤ l.length := List.countP_le_length
theorem binsearch_any (A : Option Addr) (c : Nat) (l : List Int) (x : Int) (w : World) (h : repI.SHas 8 w A c l) (hs : l.Pairwise (· ≤ ·)) : Calls Try.prog 90 #[.slice A l.length c, .int .i64 x] w (fun e w' => e = .returned (.tuple #[.int .i64 (binI l x : Nat), .bool (l.contains x)]) ∧ Ext w w') := by
  have hlen := h.2.2.1
  cases l with
  | nil => exact (Any.slices_BinarySearch_int_empty laysSrc A c x w).mono fun e w' ⟨h1, h2⟩ => by subst h2; exact ⟨h1, Ext.rf _⟩
  | cons y r =>
    obtain ⟨b, o, rfl, hc⟩ := repI_at h (by simp)
    refine (Any.slices_BinarySearch_int laysSrc b o (y :: r).length c (y :: r) x w (Nat.le_refl _) (by omega) (fun j hj => by
      have := hc j ((y :: r).getD j 0) (get_d (u := 0) hj); exact this) (by rw [List.take_length]; exact hs)).mono fun e w' ⟨h1, q, h2⟩ => ?_
    subst h2
    rw [List.take_length] at h1
    exact ⟨h1, below_drewN (Below.refl _ w) q⟩
/-! slices.Insert -/
def encI' (n : Int) : Value := .int .i64 n
theorem flat_ints {w : World} {B : Nat} : ∀ {ps : List (List Nat × List Value)} {l : List Int}, All2 (fun x a => repI.own w B x.1 x.2 a) ps l → (ps.map (·.2)).flatten = l.map encI' ∧ ∀ x ∈ l, okI x
  | [], [], _ => ⟨rfl, by simp⟩
  | p :: ps, a :: l, h => by
    obtain ⟨⟨_, h1, h2⟩, h3⟩ := h
    obtain ⟨e, ho⟩ := flat_ints h3
    refine ⟨by rw [List.map_cons, List.flatten_cons, e, h1]; rfl, fun x hx => ?_⟩
    rcases List.mem_cons.1 hx with rfl | hx
    · exact h2
    · exact ho x hx
  | [], _ :: _, h => h.elim
  | _ :: _, [], h => h.elim
theorem all_ints {w : World} : ∀ {l : List Int}, (∀ x ∈ l, okI x) → All2 (fun es a => repI.has w es a) (l.map fun n => [encI' n]) l
  | [], _ => trivial
  | a :: l, h => ⟨⟨rfl, h a List.mem_cons_self⟩, all_ints fun x hx => h x (List.mem_cons_of_mem _ hx)⟩
theorem flat_sing (l : List Int) : (l.map fun n => [encI' n]).flatten = l.map encI' := by
  induction l with
  | nil => rfl
  | cons a l ih => rw [List.map_cons, List.flatten_cons, ih]; rfl
theorem ints_open {w : World} {B c g : Nat} {l : List Int} (h : repI.SOwn 3 8 w B (Rep.blkOf (some ⟨g, 0, none⟩)) (some ⟨g, 0, none⟩) c l) :
    ∃ cur : List Value, Blk w g cur 3 (0, 0) ∧ B ≤ g ∧ c ≤ maxLen ∧ cur.length = c ∧ l.length ≤ c ∧ cur.take l.length = l.map encI' ∧ (∀ u ∈ cur, ∃ n : Int, u = .int .i64 n) ∧ ∀ x ∈ l, okI x := by
  obtain ⟨hb, ps, hf, hn, ho, hall⟩ := h
  obtain ⟨e, hok⟩ := flat_ints hall
  rw [e] at ho
  obtain ⟨_, h2⟩ := ho
  rcases h2 with ⟨h2, _⟩ | ⟨g', cap, cur, hv, hB, hh, hnc, hcm, hs, ht, hG⟩
  · cases h2
  · injection hv with e1 e2 e3
    injection e1 with e1
    injection e1 with e1
    subst e1 e3
    refine ⟨cur.toList, hh, hB, hcm, by have hs : cur.size = c * 1 := hs; rw [Nat.mul_one] at hs; simpa using hs, hnc, by have ht : cur.toList.take (l.length * 1) = _ := ht; rwa [Nat.mul_one] at ht, fun u hu => ?_, hok⟩
    obtain ⟨j, hj, rfl⟩ := List.mem_iff_getElem.1 hu
    exact hG j _ (by rw [← Array.getElem?_toList, List.getElem?_eq_getElem hj])
theorem ints_close {w : World} {B c g : Nat} {l : List Int} {cur : List Value} (h : Blk w g cur 3 (0, 0)) (hB : B ≤ g) (hcm : c ≤ maxLen) (hs : cur.length = c) (hn : l.length ≤ c) (hb : l.length * 8 ≤ 140737488355328) (ht : cur.take l.length = l.map encI') (hG : ∀ u ∈ cur, ∃ n : Int, u = .int .i64 n) (hok : ∀ x ∈ l, okI x) :
    repI.SOwn 3 8 w B (Rep.blkOf (some ⟨g, 0, none⟩)) (some ⟨g, 0, none⟩) c l := by
  refine Rep.SOwn.of_plain Rep.flat_plain (all_ints hok) hb ?_
  rw [flat_sing]
  refine ⟨by rw [List.length_map]; exact (Nat.mul_one _).symm, .inr ⟨g, c, cur.toArray, rfl, hB, h, hn, hcm, by rw [List.size_toArray, hs]; exact (Nat.mul_one _).symm, ?_, fun j u hu => ?_⟩⟩
  · show cur.toArray.toList.take (l.length * 1) = _
    rw [Nat.mul_one]; exact ht
  · exact hG u (by rw [List.getElem?_toArray] at hu; exact List.mem_of_getElem? hu)
def setL (cur : List Value) : Nat → List Value → List Value
  | _, [] => cur
  | o, v :: r => setL (cur.set o v) (o + 1) r
theorem Blk.setCells {g : Nat} {e : TypeId} : ∀ (zs : List Value) (o : Nat) (w : World) (cur : List Value), Blk w g cur e (0, 0) → Blk (w.setCells g o zs) g (setL cur o zs) e (0, 0)
  | [], _, _, _, h => h
  | v :: r, o, w, cur, h => Blk.setCells r (o + 1) _ _ (h.set o v)
theorem setL_eq : ∀ (zs : List Value) (o : Nat) (cur : List Value), o + zs.length ≤ cur.length → setL cur o zs = cur.take o ++ zs ++ cur.drop (o + zs.length)
  | [], o, cur, _ => by simp [setL]
  | v :: r, o, cur, h => by
    rw [List.length_cons] at h
    rw [setL, setL_eq r (o + 1) _ (by rw [List.length_set]; omega), List.length_cons, List.drop_set_of_lt (by omega), show o + 1 + r.length = o + (r.length + 1) by omega]
    have : (cur.set o v).take (o + 1) = cur.take o ++ [v] := by
      rw [List.take_succ_eq_append_getElem (by rw [List.length_set]; omega), List.take_set_of_le (Nat.le_refl _), List.getElem_set_self]
    rw [this]; simp
theorem setL_mem {u : Value} : ∀ (zs : List Value) (o : Nat) (cur : List Value), u ∈ setL cur o zs → u ∈ cur ∨ u ∈ zs
  | [], _, _, h => .inl h
  | v :: r, o, cur, h => by
    rcases setL_mem r (o + 1) _ h with h | h
    · rcases List.mem_or_eq_of_mem_set h with h | rfl
      · exact .inl h
      · exact .inr List.mem_cons_self
    · exact .inr (List.mem_cons_of_mem _ h)
theorem setL_len : ∀ (zs : List Value) (o : Nat) (cur : List Value), (setL cur o zs).length = cur.length
  | [], _, _ => rfl
  | v :: r, o, cur => by rw [setL, setL_len r, List.length_set]
/-- The cells behind both moves. -/
theorem ins_cells {cur cs : List Value} {i n : Nat} {x : Value} (hi : i ≤ n) (hn : cs.length = n) (hc : n + 1 ≤ cur.length) (ht : cur.take i = cs.take i) :
    (setL (setL cur (i + 1) (cs.drop i)) i [x]).take (n + 1) = cs.take i ++ x :: cs.drop i := by
  have hd : (cs.drop i).length = n - i := by rw [List.length_drop, hn]
  have h1 : setL cur (i + 1) (cs.drop i) = cur.take (i + 1) ++ cs.drop i ++ cur.drop (n + 1) := by rw [setL_eq _ _ _ (by rw [hd]; omega), hd, show i + 1 + (n - i) = n + 1 by omega]
  have hl1 : (cur.take (i + 1)).length = i + 1 := by rw [List.length_take]; omega
  rw [setL_eq _ _ _ (by rw [setL_len, List.length_singleton]; omega), h1, List.length_singleton]
  have e1 : (cur.take (i + 1) ++ cs.drop i ++ cur.drop (n + 1)).take i = cs.take i := by
    rw [List.append_assoc, List.take_append_of_le_length (by omega), List.take_take, Nat.min_eq_left (by omega), ht]
  have e2 : (cur.take (i + 1) ++ cs.drop i ++ cur.drop (n + 1)).drop (i + 1) = cs.drop i ++ cur.drop (n + 1) := by
    rw [List.append_assoc, List.drop_append_of_le_length (by omega), List.drop_of_length_le (by omega), List.nil_append]
  rw [e1, e2]
  have hl2 : (cs.take i).length = i := by rw [List.length_take]; omega
  have : cs.take i ++ [x] ++ (cs.drop i ++ cur.drop (n + 1)) = (cs.take i ++ x :: cs.drop i) ++ cur.drop (n + 1) := by simp
  rw [this, List.take_append_of_le_length (by rw [List.length_append, List.length_cons, hd, hl2]; omega), List.take_of_length_le (by rw [List.length_append, List.length_cons, hd, hl2]; omega)]
/-- The same, the new one first. -/
theorem ins_cells' {cur cs : List Value} {i n : Nat} {x : Value} (hi : i ≤ n) (hn : cs.length = n) (hc : n + 1 ≤ cur.length) (ht : cur.take i = cs.take i) :
    (setL (setL cur i [x]) (i + 1) (cs.drop i)).take (n + 1) = cs.take i ++ x :: cs.drop i := by
  have hd : (cs.drop i).length = n - i := by rw [List.length_drop, hn]
  have hl2 : (cs.take i).length = i := by rw [List.length_take]; omega
  have h1 : setL cur i [x] = cur.take i ++ [x] ++ cur.drop (i + 1) := by rw [setL_eq _ _ _ (by rw [List.length_singleton]; omega), List.length_singleton]
  rw [setL_eq _ _ _ (by rw [setL_len, hd]; omega), h1, ht, hd]
  have e1 : (cs.take i ++ [x] ++ cur.drop (i + 1)).take (i + 1) = cs.take i ++ [x] := by
    rw [List.take_append_of_le_length (by rw [List.length_append, List.length_singleton, hl2]; omega), List.take_of_length_le (by rw [List.length_append, List.length_singleton, hl2]; omega)]
  rw [e1, List.take_append_of_le_length (by rw [List.length_append, List.length_append, List.length_singleton, hd, hl2]; omega), List.take_of_length_le (by rw [List.length_append, List.length_append, List.length_singleton, hd, hl2]; omega)]
  simp
theorem map_ins (l : List Int) (i : Nat) (x : Int) : (l.take i ++ x :: l.drop i).map encI' = (l.map encI').take i ++ encI' x :: (l.map encI').drop i := by
  rw [List.map_append, List.map_cons, List.map_take, List.map_drop]
theorem ins_len (l : List Int) {i : Nat} (x : Int) (hi : i ≤ l.length) : (l.take i ++ x :: l.drop i).length = l.length + 1 := by
  rw [List.length_append, List.length_cons, List.length_take, List.length_drop]; omega
theorem ins_ok {l : List Int} {i : Nat} {x : Int} (h : ∀ y ∈ l, okI y) (hx : okI x) : ∀ y ∈ l.take i ++ x :: l.drop i, okI y := fun y hy => by
  rcases List.mem_append.1 hy with hy | hy
  · exact h y (List.mem_of_mem_take hy)
  · rcases List.mem_cons.1 hy with rfl | hy
    · exact hx
    · exact h y (List.mem_of_mem_drop hy)
theorem mem_enc {l : List Int} {u : Value} (h : u ∈ l.map encI') : ∃ n : Int, u = .int .i64 n := by
  obtain ⟨n, _, rfl⟩ := List.mem_map.1 h; exact ⟨n, rfl⟩
theorem one_enc {l : List Int} : ∀ v ∈ l.map encI', v.oneCell' = true := fun v hv => by obtain ⟨n, rfl⟩ := mem_enc hv; rfl
theorem mem_zero {k : Nat} {u : Value} (h : u ∈ (Builtin.zeroCells (Value.int .i64 0).cells k).toList) : ∃ n : Int, u = .int .i64 n := by
  obtain ⟨j, hj, rfl⟩ := List.mem_iff_getElem.1 h
  have := zeroCells_good (z := (Value.int .i64 0).cells) (size := 1) (G := fun _ u => ∃ n : Int, u = .int .i64 n) rfl (by decide) (fun j u hu => by
    have hu : (#[(Value.int .i64 0 : Value)] : Array Value)[j]? = some u := hu
    match j, hu with
    | 0, hu => exact ⟨0, (Option.some.inj hu).symm⟩
    | j + 1, hu => cases hu) k j _ (by rw [← Array.getElem?_toList, List.getElem?_eq_getElem hj])
  exact this
theorem Mod.cells (g : Nat) : ∀ (zs : List Value) (o : Nat) (w : World), Mod [g] w (w.setCells g o zs)
  | [], _, w => Mod.of_ext (Ext.rf w)
  | v :: r, o, w => by
    rw [World.setCells]
    exact (Mod.setCell w ⟨g, o, none⟩ v).trans (Mod.cells g r (o + 1) _)
theorem Mod.fresh {w1 w' : World} {w : World} (h : Ext w w1) (m : Mod [w.heap.size] w1 w') : Ext w w' :=
  ⟨m.os.trans h.os, m.tape.trans h.tape, m.output.trans h.output, Nat.le_trans h.size m.size, fun k hk => (m.block k (Nat.lt_of_lt_of_le hk h.size) (by simp; omega)).trans (h.block k hk)⟩
theorem ext_drew' (w : World) : Ext w w.drew := (Below.refl _ w).drew
theorem ins_any (w0 : World) (A : Option Addr) (c i vb : Nat) (l : List Int) (x : Int) (w : World) (hx0 : Ext w0 w) (hO : repI.SOwn 3 8 w w0.heap.size (Rep.blkOf A) A c l) (hi : i ≤ l.length) (hl : l.length ≤ 1000000) (hx : okI x)
    (hV : Blk w vb [.int .i64 x] 3 (0, 0)) (hvb : ∀ q ∈ Rep.blkOf A, q = vb → False) :
    Calls Try.prog 91 #[.slice A l.length c, .int .i64 (i : Int), .slice (some ⟨vb, 0, none⟩) 1 1] w fun e w' => ∃ A' c', e = .returned (.slice A' (l.take i ++ x :: l.drop i).length c') ∧
      repI.SOwn 3 8 w' w0.heap.size (Rep.blkOf A') A' c' (l.take i ++ x :: l.drop i) ∧ (∀ q ∈ Rep.blkOf A', q ∈ Rep.blkOf A ∨ w.heap.size ≤ q) ∧ Mod (Rep.blkOf A) w w' := by
  have hlen := ins_len l x hi
  have hvs : ∀ (j : Nat) v, [encI' x][j]? = some v → w.cell? ⟨vb, 0 + j, none⟩ = some v := fun j v hj => by rw [Nat.zero_add, hV.cell]; exact hj
  have h1v : ∀ v ∈ [encI' x], v.oneCell' = true := fun v hv => by rw [List.mem_singleton.1 hv]; rfl
  have hxs := hx0.size
  have hbytes : (l.length + 1) * 8 ≤ 140737488355328 := by omega
  have hgl : ∀ G, l.length + 1 ≤ G → (l.take i ++ x :: l.drop i).length ≤ G := fun G h => by omega
  -- what a new row holds
  have grown : ∀ (w' : World) (cur : List Value) (G : Nat), Blk w' w.heap.size cur 3 (0, 0) → G ≤ maxLen → cur.length = G → l.length + 1 ≤ G → cur.take (l.length + 1) = (l.map encI').take i ++ encI' x :: (l.map encI').drop i → (∀ u ∈ cur, ∃ n : Int, u = .int .i64 n) → (∀ y ∈ l, okI y) → Ext w w' →
      repI.SOwn 3 8 w' w0.heap.size (Rep.blkOf (some ⟨w.heap.size, 0, none⟩)) (some ⟨w.heap.size, 0, none⟩) G (l.take i ++ x :: l.drop i) := fun w' cur G hB hG hs hn ht hr hok _ =>
    ints_close hB hxs hG hs (hgl _ hn) (by rw [hlen]; exact hbytes) (by rw [hlen, map_ins]; exact ht) hr (ins_ok hok hx)
  have hcap := grownCap_ge w (l.length + 1) c 3
  have hcmx : grownCap w (l.length + 1) c 3 ≤ maxLen := grownCap_le_maxLen _ _ _ _ (by unfold maxLen; omega)
  have new : ∀ q ∈ Rep.blkOf (some ⟨w.heap.size, 0, none⟩), q ∈ Rep.blkOf A ∨ w.heap.size ≤ q := fun q hq => .inr (Nat.le_of_eq (show q = w.heap.size from List.mem_singleton.1 hq).symm)
  have zl : ∀ k, (Builtin.zeroCells (Value.int .i64 0).cells k).toList.length = k := fun k => by rw [Array.length_toList, size_zeroCells]; exact Nat.mul_one _
  have hcm0 := hO.has.2.1
  rcases Nat.lt_or_ge i l.length with hil | hil
  · -- amid
    obtain ⟨g, rfl⟩ := hO.block (by omega)
    obtain ⟨cur, hB, hBg, hcm, hs, hn, ht, hr, hok⟩ := ints_open hO
    have hcl : (l.map encI').length = l.length := List.length_map _
    have hcs : ∀ (j : Nat) v, (l.map encI')[j]? = some v → w.cell? ⟨g, 0 + j, none⟩ = some v := fun j v hj => by
      rw [Nat.zero_add, hB.cell, ← hj, ← ht, List.getElem?_take, if_pos]
      have := (List.getElem?_eq_some_iff.1 hj).1; omega
    have hti : cur.take i = (l.map encI').take i := by rw [← ht, List.take_take, Nat.min_eq_left hi]
    have hgv : g ≠ vb := fun e => hvb g (List.mem_singleton.2 rfl) e
    rcases Nat.lt_or_ge c (l.length + 1) with hroom | hroom
    · refine (Any2.slices_Insert_int_grow laysIns g 0 l.length c i vb 0 1 1 (l.map encI') [encI' x] w hil (by decide) hn hroom hbytes hcl rfl hcs hvs one_enc h1v).mono fun e w' ⟨h1, h2⟩ => ?_
      subst h2
      have hext : Ext w (((w.alloc (.cells (((l.map encI').take i).toArray ++ Builtin.zeroCells (Value.int .i64 0).cells (l.length + 1 - i) ++ Builtin.zeroCells (Value.int .i64 0).cells (grownCap w (l.length + 1) c 3 - (l.length + 1))) 3)).drew.setCells w.heap.size i [encI' x]).drew.setCells w.heap.size (i + 1) ((l.map encI').drop i)) :=
        Mod.fresh (w1 := (w.alloc (.cells (((l.map encI').take i).toArray ++ Builtin.zeroCells (Value.int .i64 0).cells (l.length + 1 - i) ++ Builtin.zeroCells (Value.int .i64 0).cells (grownCap w (l.length + 1) c 3 - (l.length + 1))) 3)).drew) ((Below.refl _ w).alloc (Nat.le_refl _) _).drew
          (((Mod.cells w.heap.size [encI' x] i _).trans (Mod.of_ext (ext_drew' _))).trans (Mod.cells w.heap.size ((l.map encI').drop i) (i + 1) _))
      obtain ⟨Z, hZ⟩ : ∃ Z : List Value, (((l.map encI').take i).toArray ++ Builtin.zeroCells (Value.int .i64 0).cells (l.length + 1 - i) ++ Builtin.zeroCells (Value.int .i64 0).cells (grownCap w (l.length + 1) c 3 - (l.length + 1))) = Z.toArray := ⟨_, Array.toArray_toList.symm⟩
      have hZl : Z = (l.map encI').take i ++ (Builtin.zeroCells (Value.int .i64 0).cells (l.length + 1 - i)).toList ++ (Builtin.zeroCells (Value.int .i64 0).cells (grownCap w (l.length + 1) c 3 - (l.length + 1))).toList := by
        have := congrArg Array.toList hZ; simpa using this.symm
      have hZn : Z.length = grownCap w (l.length + 1) c 3 := by rw [hZl, List.length_append, List.length_append, zl, zl, List.length_take, hcl]; omega
      have hZt : Z.take i = (l.map encI').take i := by rw [hZl, List.append_assoc, List.take_append_of_le_length (by rw [List.length_take, hcl]; omega), List.take_take, Nat.min_self]
      refine ⟨_, _, by rw [hlen]; exact h1, grown _ (setL (setL Z i [encI' x]) (i + 1) ((l.map encI').drop i)) _ ?_ hcmx (by rw [setL_len, setL_len]; exact hZn) hcap (ins_cells' hi hcl (by omega) hZt) ?_ hok hext, new, Mod.of_ext hext⟩
      · have hB2 : Blk (w.alloc (.cells (((l.map encI').take i).toArray ++ Builtin.zeroCells (Value.int .i64 0).cells (l.length + 1 - i) ++ Builtin.zeroCells (Value.int .i64 0).cells (grownCap w (l.length + 1) c 3 - (l.length + 1))) 3)).drew w.heap.size Z 3 (0, 0) := by rw [hZ]; exact Blk.new w Z 3 (0, 0)
        exact Blk.setCells _ _ _ _ (show Blk (World.setCells _ _ _ _).drew _ _ _ _ from Blk.setCells _ _ _ _ hB2)
      · intro u hu
        rcases setL_mem _ _ _ hu with hu | hu
        · rcases setL_mem _ _ _ hu with hu | hu
          · rw [hZl] at hu
            rcases List.mem_append.1 hu with hu | hu
            · rcases List.mem_append.1 hu with hu | hu
              · exact mem_enc (List.mem_of_mem_take hu)
              · exact mem_zero hu
            · exact mem_zero hu
          · rw [List.mem_singleton.1 hu]; exact ⟨x, rfl⟩
        · exact mem_enc (List.mem_of_mem_drop hu)
    · refine (Any2.slices_Insert_int_shift laysIns g 0 l.length c i vb 0 1 1 (l.map encI') [encI' x] w hil (by decide) hroom hcm0 (fun e => hgv e.symm) hcl rfl hcs (fun j hj => by rw [Nat.zero_add, hB.cell, List.getElem?_eq_getElem (by omega)]; rfl) (fun j _ => hO.free _) hvs one_enc h1v 3 3 1 c (by unfold Blk at hV; simp [World.shape?, hV]) (by unfold Blk at hB; simp [World.shape?, hB, hs]) (by omega) (hV.free _ (.inr (Nat.zero_le _))) (hV.free _ (.inr (Nat.zero_le _)))).mono fun e w' ⟨h1, h2⟩ => ?_
      subst h2
      refine ⟨_, _, by rw [hlen]; exact h1, ints_close (cur := setL (setL cur (i + 1) ((l.map encI').drop i)) i [encI' x]) ?_ hBg hcm (by rw [setL_len, setL_len]; exact hs) (hgl _ hroom) (by rw [hlen]; exact hbytes) (by rw [hlen, map_ins]; exact ins_cells hi hcl (by omega) hti) ?_ (ins_ok hok hx), fun q hq => .inl hq, ?_⟩
      · rw [Nat.zero_add, Nat.zero_add]
        exact Blk.setCells _ _ _ _ (Blk.setCells _ _ _ _ (show Blk w.drew _ _ _ _ from hB))
      · intro u hu
        rcases setL_mem _ _ _ hu with hu | hu
        · rcases setL_mem _ _ _ hu with hu | hu
          · exact hr u hu
          · exact mem_enc (List.mem_of_mem_drop hu)
        · rw [List.mem_singleton.1 hu]; exact ⟨x, rfl⟩
      · exact ((Mod.of_ext (ext_drew' w)).trans (Mod.cells g _ _ _)).trans (Mod.cells g _ _ _)
  · -- at the end
    obtain rfl : i = l.length := by omega
    have hcl : (l.map encI').length = l.length := List.length_map _
    have e0 : (l.map encI').take l.length = l.map encI' := List.take_of_length_le (by omega)
    have e1 : (l.map encI').drop l.length = [] := List.drop_of_length_le (by omega)
    rcases Nat.lt_or_ge c (l.length + 1) with hroom | hroom
    · have hcells : ∀ a, A = some a → ∀ (j : Nat) v, (l.map encI')[j]? = some v → w.cell? (a.add j) = some v := fun a ha j v hj => by
        have hjl := (List.getElem?_eq_some_iff.1 hj).1
        obtain ⟨g, e⟩ := hO.block (by omega)
        subst e
        obtain rfl := Option.some.inj ha
        obtain ⟨cur, hB, hBg, hcm, hs, hn, ht, hr, hok⟩ := ints_open hO
        rw [show (⟨g, 0, none⟩ : Addr).add j = ⟨g, 0 + j, none⟩ from Addr.add_lit .., Nat.zero_add, hB.cell, ← hj, ← ht, List.getElem?_take, if_pos (by omega)]
      have hok : ∀ y ∈ l, okI y := by
        obtain ⟨_, ps, _, _, _, hall⟩ := hO
        exact (flat_ints hall).2
      refine (Any2.slices_Insert_int_end_grow laysIns A l.length c vb 0 1 1 (l.map encI') [encI' x] w (by decide) hO.has.1 hroom hbytes hcl rfl (fun h => by subst h; have := hO.nil_c.1; rw [this]; rfl) hcells hvs h1v).mono fun e w' ⟨h1, h2⟩ => ?_
      subst h2
      have hext : Ext w (w.drew.alloc (.cells ((l.map encI' ++ [encI' x]).toArray ++ Builtin.zeroCells (Value.int .i64 0).cells (grownCap w (l.length + 1) c 3 - (l.length + 1))) 3)) := (ext_drew' w).alloc (Nat.le_refl _) _
      refine ⟨_, _, by rw [hlen]; exact h1, grown _ ((l.map encI' ++ [encI' x]) ++ (Builtin.zeroCells (Value.int .i64 0).cells (grownCap w (l.length + 1) c 3 - (l.length + 1))).toList) _ ?_ hcmx (by rw [List.length_append, List.length_append, zl, hcl, List.length_singleton]; omega) hcap ?_ ?_ hok hext, new, Mod.of_ext hext⟩
      · have hB2 := Blk.new w.drew ((l.map encI' ++ [encI' x]) ++ (Builtin.zeroCells (Value.int .i64 0).cells (grownCap w (l.length + 1) c 3 - (l.length + 1))).toList) 3 (0, 0)
        have e : ((l.map encI' ++ [encI' x]) ++ (Builtin.zeroCells (Value.int .i64 0).cells (grownCap w (l.length + 1) c 3 - (l.length + 1))).toList).toArray = (l.map encI' ++ [encI' x]).toArray ++ Builtin.zeroCells (Value.int .i64 0).cells (grownCap w (l.length + 1) c 3 - (l.length + 1)) := by
          apply Array.ext'; simp
        rw [e] at hB2
        exact hB2
      · rw [e0, e1, List.take_append_of_le_length (by rw [List.length_append, hcl, List.length_singleton]; exact Nat.le_refl _), List.take_of_length_le (by rw [List.length_append, hcl, List.length_singleton]; exact Nat.le_refl _)]
      · intro u hu
        rcases List.mem_append.1 hu with hu | hu
        · rcases List.mem_append.1 hu with hu | hu
          · exact mem_enc hu
          · rw [List.mem_singleton.1 hu]; exact ⟨x, rfl⟩
        · exact mem_zero hu
    · have hA : ∃ g, A = some ⟨g, 0, none⟩ := by
        cases A with
        | none => have := hO.nil_c.2; omega
        | some a =>
          obtain ⟨_, ps, _, _, ho, _⟩ := hO
          obtain ⟨_, h2⟩ := ho
          rcases h2 with ⟨h2, _⟩ | ⟨g, cap, cur, hv, _⟩
          · cases h2
          · injection hv with hv; exact ⟨g, hv⟩
      obtain ⟨g, rfl⟩ := hA
      obtain ⟨cur, hB, hBg, hcm, hs, hn, ht, hr, hok⟩ := ints_open hO
      refine (Any2.slices_Insert_int_end_room laysIns g 0 l.length c vb 0 1 1 [encI' x] w (by decide) hroom hcm0 rfl (fun j hj => by rw [Nat.zero_add, hB.cell, List.getElem?_eq_getElem (by omega)]; rfl) (fun j _ => hO.free _) hvs h1v).mono fun e w' ⟨h1, h2⟩ => ?_
      subst h2
      refine ⟨_, _, by rw [hlen]; exact h1, ints_close (cur := setL cur l.length [encI' x]) ?_ hBg hcm (by rw [setL_len]; exact hs) (hgl _ hroom) (by rw [hlen]; exact hbytes) ?_ ?_ (ins_ok hok hx), fun q hq => .inl hq, Mod.cells g _ _ _⟩
      · rw [Nat.zero_add]; exact Blk.setCells _ _ _ _ hB
      · rw [hlen, map_ins, e0, e1, setL_eq _ _ _ (by rw [List.length_singleton]; omega), ht, List.take_append_of_le_length (by rw [List.length_append, hcl, List.length_singleton]; exact Nat.le_refl _), List.take_of_length_le (by rw [List.length_append, hcl, List.length_singleton]; exact Nat.le_refl _)]
      · intro u hu
        rcases setL_mem _ _ _ hu with hu | hu
        · exact hr u hu
        · rw [List.mem_singleton.1 hu]; exact ⟨x, rfl⟩
end Go.Proofs.Ytfabhinehfhndaa
