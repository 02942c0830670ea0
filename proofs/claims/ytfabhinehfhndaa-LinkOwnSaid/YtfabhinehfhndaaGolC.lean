/-
  The walk over slots: a slice of one's own is cut to its first so many; its tail is cleared.
-/
import Derived.Test.YtfabhinehfhndaaGolR
import Derived.Laws.IdiomCopy
set_option linter.unusedVariables false
set_option linter.unusedSimpArgs false
namespace Go.Proofs.Ytfabhinehfhndaa
open Go.RowKit

namespace Rep
variable {α : Type} {R : Rep α}
theorem SOwn.fsts {E by_ B c : Nat} {A : Option Addr} {l : List α} {w : World} {ps : List (List Nat × List Value)} (hp : R.Bare) (hall : All2 (fun x a => R.own w B x.1 x.2 a) ps l) : ∀ y ∈ ps, y.1 = [] := fun y hy => by
  obtain ⟨b, hb⟩ := hall.left y hy
  exact hp.2 hb
theorem fst_flat {ps : List (List Nat × List Value)} (h : ∀ y ∈ ps, y.1 = []) : (ps.map (·.1)).flatten = [] := by
  rw [List.flatten_eq_nil_iff]
  intro x hx
  obtain ⟨y, hy, rfl⟩ := List.mem_map.1 hx
  exact h y hy
/-- The first so many of a slice of one's own. -/
theorem SOwn.cut {E by_ B c : Nat} {A : Option Addr} {l : List α} {w : World} (h : R.SOwn E by_ w B (blkOf A) A c l) (hp : R.Bare) (k : Nat) (hk : k ≤ l.length) : R.SOwn E by_ w B (blkOf A) A c (l.take k) := by
  obtain ⟨hb, ps, hf, hn, ho, hall⟩ := h
  have hl := olens hall
  have hpl : ps.length = l.length := hall.length
  have h1 := SOwn.fsts (E := E) (by_ := by_) (c := c) (A := A) hp hall
  have hlen : (l.take k).length = k := by rw [List.length_take]; omega
  have hm := Nat.mul_le_mul_right by_ hk
  refine ⟨by rw [hlen]; omega, ps.take k, ?_, hn, ?_, hall.take_ k⟩
  · rw [fst_flat fun y hy => h1 y (List.mem_of_mem_take hy), List.append_nil]
  · rw [hlen, List.map_take, flatten_take k hl]
    obtain ⟨hx1, hx2⟩ := ho
    have hle : k * R.size ≤ l.length * R.size := Nat.mul_le_mul_right _ hk
    refine ⟨by rw [List.length_take, hx1]; omega, ?_⟩
    rcases hx2 with ⟨hx2, hx3⟩ | ⟨g, cap, cur, hv, hB, hh, hnc, hcm, hs, ht, hG⟩
    · injection hx2 with e1 e2 e3
      subst e1 e3
      have : k = 0 := by omega
      subst this
      exact .inl ⟨rfl, rfl⟩
    · injection hv with e1 e2 e3
      subst e1 e3
      exact .inr ⟨g, c, cur, rfl, hB, hh, by omega, hcm, hs, by rw [← ht, List.take_take, Nat.min_eq_left hle], hG⟩
/-- Cells behind the first so many are written. -/
theorem Own.setCells_at {base e size n g c : Nat} {G : Nat → Value → Prop} {xs : List Value} : ∀ (zs : List Value) (o : Nat) (w : World), n * size ≤ o → Own w base e size G (.slice (some ⟨g, 0, none⟩) n c) n xs → (∀ (j : Nat) u, zs[j]? = some u → G ((o + j) % size) u) →
    Own (w.setCells g o zs) base e size G (.slice (some ⟨g, 0, none⟩) n c) n xs
  | [], _, _, _, h, _ => h
  | v :: r, o, w, ho, h, hG => by
    rw [World.setCells]
    have h1 := h.stored o v (hG 0 v rfl)
    rw [List.set_eq_of_length_le (by rw [h.1]; exact ho)] at h1
    refine Own.setCells_at r (o + 1) _ (by omega) h1 fun j u hu => ?_
    have := hG (j + 1) u hu
    rwa [show o + 1 + j = o + (j + 1) from by omega]
theorem Mod.setCells (g : Nat) : ∀ (zs : List Value) (o : Nat) (w : World), Mod [g] w (w.setCells g o zs)
  | [], _, w => Mod.of_ext (Ext.rf w)
  | v :: r, o, w => by
    rw [World.setCells]
    exact (Mod.setCell w ⟨g, o, none⟩ v).trans (Mod.setCells g r (o + 1) _)
theorem SOwn.setTail {E by_ B c g : Nat} {l : List α} {w : World} (h : R.SOwn E by_ w B (blkOf (some ⟨g, 0, none⟩)) (some ⟨g, 0, none⟩) c l) (hp : R.Bare) (k : Nat) (hk : k ≤ l.length) (zs : List Value) (hz : ∀ (j : Nat) u, zs[j]? = some u → R.raw (j % R.size) u) :
    R.SOwn E by_ (w.setCells g (k * R.size) zs) B (blkOf (some ⟨g, 0, none⟩)) (some ⟨g, 0, none⟩) c (l.take k) := by
  obtain ⟨hb, ps, hf, hn, ho, hall⟩ := h.cut hp k hk
  have h1 := SOwn.fsts (E := E) (by_ := by_) (c := c) (A := some ⟨g, 0, none⟩) hp hall
  have hlen : (l.take k).length = k := by rw [List.length_take]; omega
  refine ⟨hb, ps, hf, hn, ?_, hall.imp fun y a hy hyo => R.okeep hyo fun q hq => ?_⟩
  · refine Own.setCells_at zs _ w (by rw [hlen]; exact Nat.le_refl _) ho fun j u hu => ?_
    rw [Nat.mul_comm, Nat.mul_add_mod]
    exact hz j u hu
  · rw [h1 y hy] at hq; simp at hq
end Rep
section
variable {P : Program} {n : Nat} {E E' : List (Nat × Value)} {a : Act} {w w' w0 w1 : World} {Q : Exit → Act → World → Prop} {ops : Array Oper} {v : Value}
variable {d : Option Nat} {ty : TypeId} {pos : String} {af : Array Edge} {g : Option (Nat × Bool)} {x y z : Operand} {t : TypeId} {rest : List Oper}
theorem zeroCells_get {zs : Array Value} {m j : Nat} {u : Value} (hu : (Builtin.zeroCells zs m).toList[j]? = some u) : ∃ i : Nat, i = j % zs.size ∧ (0 < zs.size → zs[i]? = some u) := by
  rw [Array.getElem?_toList] at hu
  obtain ⟨h, hv⟩ := Array.getElem?_eq_some_iff.1 hu
  simp only [Builtin.zeroCells, Array.getElem_map, Array.getElem_range] at hv
  refine ⟨_, rfl, fun h0 => ?_⟩
  have hr : j % zs.size < zs.size := Nat.mod_lt _ h0
  rw [Array.getElem?_eq_getElem hr, ← hv]
  rw [getElem!_pos zs (j % zs.size) hr]
theorem sT {A : Option Addr} {len cap e s : Nat} {k : IntKind} (lo : Nat) {i : Int} (ht : P.underlying t = some (.slice e)) (hs : Sz P e s) (hx : ev E x = some (.slice A len cap)) (hy : ev E y = some (.int k i)) (hi : i = (lo : Int)) (h1 : lo ≤ len) :
    Runs P E ⟨d, .slice t x (some y) none none, ty, pos, af, g⟩ w (.slice (sA A cap lo s) (len - lo) (cap - lo)) w := fun n a ha => by
  subst hi
  have q1 : P.underlying t = some (.slice (P.elem t)) := by simp [Program.elem, ht]
  have q2 : P.elem t = e := by simp [Program.elem, ht]
  have h3 := run_slice_l (P := P) (w := w) t A len cap q1 k (lo : Int) (by omega) (by omega)
  have h4 := run_sliceAt_slice (P := P) (w := w) t (.slice A len cap) (some (.int k (lo : Int))) none none q1
  rw [q2, hs w] at h3
  simp only [execOp, ha.ev hx, ha.ev hy, Option.map, h4, h3, Sem.run_bind, Result.andThen_ok, Sem.run_pure, sliced, Int.toNat_natCast, sA]
theorem uv {op : Op} (hr : Runs P E ⟨none, op, ty, pos, af, none⟩ w v w') (h : WL P n ops Q rest E w') : WL P n ops Q (⟨none, op, ty, pos, af, none⟩ :: rest) E w := fun a ha => by
  refine WL_one rfl ?_
  unfold Oper.wp
  rw [hr n a ha]
  exact h _ ha
/-- clear of cells of a slice of one's own, behind its first so many. -/
theorem run_clear_own {α : Type} {R : Rep α} {e by_ B c k q g m : Nat} {l : List α} {z : Value} (ht : P.underlying t = some (.slice e)) (hi : (P.info? e).map (fun i => (i.zero, i.size, i.bytes)) = some (some z, m, by_)) (hm : R.size = m) (h0 : 0 < m) (hz : z.cells.size = m) (hz1 : z.cells.toList.all (·.oneCell') = true)
    (hr : ∀ (j : Nat) u, z.cells[j]? = some u → R.raw j u) (h : R.SOwn e by_ w B (Rep.blkOf (some ⟨g, 0, none⟩)) (some ⟨g, 0, none⟩) c l) (hR : R.Bare) (hk : k ≤ l.length) (hq : 0 < q) (hkq : k + q ≤ c) :
    ∃ w1, Mod [g] w w1 ∧ R.SOwn e by_ w1 B (Rep.blkOf (some ⟨g, 0, none⟩)) (some ⟨g, 0, none⟩) c (l.take k) ∧ (Builtin.clear_ #[t] ty #[.slice (some ⟨g, k * m, none⟩) q (c - k)]).run P w = .ok (.tuple #[]) w1 := by
  subst hm
  have hlen : (Builtin.zeroCells z.cells q).toList.length = q * R.size := by rw [Array.length_toList]; simp [Builtin.zeroCells, hz]
  obtain ⟨hle, ps, hf, hn, ho, hall⟩ := id h
  have hin : ∀ j, j < q * R.size → k * R.size + j < c * R.size := fun j hj => by
    have e1 : k * R.size + q * R.size = (k + q) * R.size := by rw [← Nat.add_mul]
    have e2 := Nat.mul_le_mul_right R.size hkq
    omega
  have hz3 : ∀ (j : Nat) u, (Builtin.zeroCells z.cells q).toList[j]? = some u → u.oneCell' = true ∧ R.raw (j % R.size) u := fun j u hu => by
    obtain ⟨i, hi, hg⟩ := zeroCells_get hu
    have hg := hg (by omega)
    rw [hz] at hi; subst hi
    refine ⟨?_, hr _ u hg⟩
    have := List.all_eq_true.1 hz1 u (by rw [Array.mem_toList_iff]; exact Array.mem_of_getElem? hg)
    exact this
  have hst := run_storeCells_cells (P := P) g (k * R.size) (Builtin.zeroCells z.cells q).toList 0 w (fun j hj => by
      rw [hlen] at hj
      obtain ⟨u, hu, _⟩ := ho.some_ (k * R.size + 0 + j) (hin j hj)
      rw [hu]; rfl) (fun j _ => ho.free _) (fun v hv => by
      obtain ⟨j, hj⟩ := List.mem_iff_getElem?.1 hv
      exact (hz3 j v hj).1)
  rw [Nat.add_zero] at hst
  refine ⟨_, Rep.Mod.setCells g _ _ w, h.setTail hR k (by omega) _ (fun j u hu => (hz3 j u hu).2), ?_⟩
  have hzv : ∀ w, (zeroValue e).run P w = .ok z w := fun w => by
    cases hq : P.info? e with
    | none => rw [hq] at hi; cases hi
    | some i =>
      rw [hq] at hi
      simp only [Option.map_some, Option.some.injEq, Prod.mk.injEq] at hi
      simp [zeroValue, typeInfo, hq, hi.1]
  obtain ⟨p, rfl⟩ : ∃ p, q = p + 1 := ⟨q - 1, by omega⟩
  simp [Builtin.clear_, run_underlying ht, hzv, hst]
theorem cl {α : Type} {R : Rep α} {e by_ B c k q m : Nat} {A : Option Addr} {l : List α} {z : Value} (ht : P.underlying t = some (.slice e)) (hi : (P.info? e).map (fun i => (i.zero, i.size, i.bytes)) = some (some z, m, by_)) (hm : R.size = m) (h0 : 0 < m) (hz : z.cells.size = m) (hz1 : z.cells.toList.all (·.oneCell') = true)
    (hr : ∀ (j : Nat) u, z.cells[j]? = some u → R.raw j u) (h : R.SOwn e by_ w B (Rep.blkOf A) A c l) (hR : R.Bare) (hk : k ≤ l.length) (hq : 0 < q) (hkq : k + q ≤ c) (hA : ∃ b, A = some ⟨b, 0, none⟩) (hx : ev E x = some (.slice (sA A c k m) q (c - k)))
    (hK : ∀ w1, Mod (Rep.blkOf A) w w1 → R.SOwn e by_ w1 B (Rep.blkOf A) A c (l.take k) → WL P n ops Q rest E w1) :
    WL P n ops Q (⟨none, .call { callee := .builtin .clear, args := #[x], argTypes := #[t] }, ty, pos, af, none⟩ :: rest) E w := by
  obtain ⟨b, rfl⟩ := hA
  obtain ⟨w1, hmod, hS, hrun⟩ := run_clear_own (ty := ty) ht hi hm h0 hz hz1 hr h hR hk hq hkq
  have hsA : sA (some ⟨b, 0, none⟩) c k m = some ⟨b, k * m, none⟩ := by
    unfold sA; rw [if_neg (by omega)]; simp [Addr.add]; try omega
  rw [hsA] at hx
  refine uv (v := .tuple #[]) (w' := w1) (bi (vs := [.slice (some ⟨b, k * m, none⟩) q (c - k)]) (by simp only [evs, hx]) fun cs => ?_) (hK w1 hmod hS)
  simp only [builtin, Sem.run_bind, hrun, Result.andThen_ok, Sem.run_pure]
theorem s3 {A : Option Addr} {len cap e s : Nat} {k k' k2 : IntKind} {x1 x2 x3 : Operand} (lo hi mx : Nat) {i j m : Int} (ht : P.underlying t = some (.slice e)) (hs : Sz P e s) (hx : ev E x = some (.slice A len cap)) (hy : ev E x1 = some (.int k i)) (hz : ev E x2 = some (.int k' j)) (hu : ev E x3 = some (.int k2 m)) (hi1 : i = (lo : Int)) (hi2 : j = (hi : Int)) (hi3 : m = (mx : Int)) (h1 : lo ≤ hi) (h2 : hi ≤ mx) (h3 : mx ≤ cap) :
    Runs P E ⟨d, .slice t x (some x1) (some x2) (some x3), ty, pos, af, g⟩ w (sliced A lo hi mx s) w := fun n a ha => by
  subst hi1; subst hi2; subst hi3
  have q1 : P.underlying t = some (.slice (P.elem t)) := by simp [Program.elem, ht]
  have q2 : P.elem t = e := by simp [Program.elem, ht]
  have h3 := run_slice_lhm (P := P) (w := w) t A len cap q1 k k' k2 (lo : Int) (hi : Int) (mx : Int) (by omega) (by omega) (by omega) (by omega)
  have h4 := run_sliceAt_slice (P := P) (w := w) t (.slice A len cap) (some (.int k (lo : Int))) (some (.int k' (hi : Int))) (some (.int k2 (mx : Int))) q1
  rw [q2, hs w] at h3
  simp only [execOp, ha.ev hx, ha.ev hy, ha.ev hz, ha.ev hu, Option.map, h4, h3, Sem.run_bind, Result.andThen_ok, Sem.run_pure, Int.toNat_natCast]
/-- append where it fits: in place. -/
theorem run_append_fit {α : Type} {R : Rep α} {e by_ base gb c c2 : Nat} {a2 : Addr} {l k : List α} (hE : ElT P R t e by_) (hR : R.Bare) (h : R.SOwn e by_ w base (Rep.blkOf (some ⟨gb, 0, none⟩)) (some ⟨gb, 0, none⟩) c l) (h2 : R.SHas by_ w (some a2) c2 k)
    (hfit : l.length + k.length ≤ c) (hbytes : (l.length + k.length) * by_ ≤ 140737488355328) (hbase : base ≤ w.heap.size) :
    ∃ w1, (Builtin.append_ #[t, t] ty #[.slice (some ⟨gb, 0, none⟩) l.length c, .slice (some a2) k.length c2]).run P w = .ok (.slice (some ⟨gb, 0, none⟩) (l.length + k.length) c) w1 ∧ R.SOwn e by_ w1 base (Rep.blkOf (some ⟨gb, 0, none⟩)) (some ⟨gb, 0, none⟩) c (l ++ k) ∧ Mod [gb] w w1 := by
  obtain ⟨i, z, e1, e2, e3, e4, e5, e6, e7, e8⟩ := hE
  obtain ⟨s1, s2, s3, s4, ess, s5, s6⟩ := h2
  obtain ⟨hb, ps, hf, hn, ho, hall⟩ := id h
  have hcm : c ≤ 9223372036854775807 := h.has.2.1
  have p0 := Rep.SOwn.fsts (E := e) (by_ := by_) (c := c) (A := some ⟨gb, 0, none⟩) hR hall
  have hone : ∀ u ∈ ess.flatten, u.oneCell' = true := fun u hu => by
    obtain ⟨es, hes, hu⟩ := List.mem_flatten.1 hu
    obtain ⟨b, hb⟩ := s5.left es hes
    exact R.one hb u hu
  obtain ⟨v', w1, hrun, hO, hg, _, _⟩ := run_append_all (P := P) w base t ty e i z R.size by_ e1 e2 e3 e4 e5 e6 e7 R.raw e8 _ l.length _ ho (some a2) k.length c2 ess.flatten s6 hone (fun j u hu => flat_raw s5 e7 hu) (by simp only [maxLen]; omega) hbytes hbase
  obtain ⟨hx1, hx2⟩ := ho
  have hnews : ess.flatten.length = k.length * R.size := s6.1
  rcases hx2 with ⟨hx2, _⟩ | ⟨g2, cap, cur, hv, hB, hh, hnc, hcm2, hcs, ht2, hG⟩
  · exact nomatch hx2
  · injection hv with e1' e2' e3'
    injection e1' with e1'
    injection e1' with e1'
    subst e1' e3'
    have hroom := run_append_room (P := P) w t ty e i e1 e2 gb l.length c cur hh a2 k.length c2 ess.flatten (by rw [hnews, e4]) (fun j u hu => by
      rcases Nat.eq_zero_or_pos k.length with h0 | h0
      · have : ess.flatten = [] := List.eq_nil_of_length_eq_zero (by rw [hnews, h0, Nat.zero_mul])
        rw [this] at hu; simp at hu
      · obtain ⟨b, o, h, hc⟩ := s6.2 h0
        injection h with h
        subst h
        rw [addAt]
        exact hc j u hu) hone hfit (by rw [hnews, hcs, e4, ← Nat.add_mul]; exact Nat.mul_le_mul_right _ hfit)
    rw [hroom] at hrun
    injection hrun with hv2 hw2
    subst hv2
    have hm : Mod [gb] w w1 := by
      have := Mod.grown hg
      exact this
    refine ⟨w1, by rw [hroom, hw2], ?_, hm⟩
    obtain ⟨p1, p2⟩ := Rep.plain_map ess
    have hl2 : (l ++ k).length = l.length + k.length := List.length_append
    refine ⟨by rw [hl2]; exact hbytes, ps ++ ess.map fun es => (([] : List Nat), es), ?_, hn, ?_, ?_⟩
    · rw [List.map_append, List.flatten_append, p1, List.append_nil]; exact hf
    · rw [hl2, List.map_append, List.flatten_append, p2]; exact hO
    · refine All2.app (hall.imp fun y a hy hyo => R.okeep hyo fun q hq => ?_) ?_
      · rw [p0 y hy] at hq; simp at hq
      · exact (Rep.All2.plain (w := w) (B := base) hR.1 s5).imp fun y a hy hyo => R.okeep hyo fun q hq => by rw [hR.2 hyo] at hq; simp at hq
/-- append to the first so many of one's own, where it fits. -/
theorem apf {α : Type} {R : Rep α} {e by_ base c c2 : Nat} {A : Option Addr} {A2 : Option Addr} {dd : Nat} {l k : List α} (hE : ElT P R t e by_) (hR : R.Bare) (h : R.SOwn e by_ w base (Rep.blkOf A) A c l) (hA : ∃ b, A = some ⟨b, 0, none⟩) (h2 : R.SHas by_ w A2 c2 k) (hA2 : ∃ a, A2 = some a)
    (hs : ev E x = some (.slice A l.length c)) (hx : ev E y = some (.slice A2 k.length c2)) (hfit : l.length + k.length ≤ c) (hbytes : (l.length + k.length) * by_ ≤ 140737488355328) (hbase : base ≤ w.heap.size) (hd : Nat.blt dd n = true)
    (hk : ∀ w1, Mod (Rep.blkOf A) w w1 → R.SOwn e by_ w1 base (Rep.blkOf A) A c (l ++ k) → WL P n ops Q rest ((dd, .slice A (l.length + k.length) c) :: E) w1) :
    WL P n ops Q (⟨some dd, .call { callee := .builtin .append, args := #[x, y], argTypes := #[t, t] }, ty, pos, af, none⟩ :: rest) E w := by
  obtain ⟨b, rfl⟩ := hA
  obtain ⟨a2, rfl⟩ := hA2
  obtain ⟨w1, hrun, hO, hm⟩ := run_append_fit (ty := ty) hE hR h h2 hfit hbytes hbase
  exact vl (w' := w1) (bi (vs := [.slice (some ⟨b, 0, none⟩) l.length c, .slice (some a2) k.length c2]) (by simp only [evs, hs, hx]) fun cs => by simp only [builtin, Sem.run_bind, hrun, Result.andThen_ok, Sem.run_pure]) hd (hk w1 hm hO)
section
variable {k : IntKind} {i j : Int} {u : TypeId}
end
end
end Go.Proofs.Ytfabhinehfhndaa
