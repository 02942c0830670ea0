import Derived.Test.YtokehopkfnipmaaBas
import Derived.Test.YtokehopkfnipmaaGol
import Derived.Test.YtokehopkfnipmaaLinG
import Derived.Test.YtokehopkfnipmaaWld
import Derived.Test.YtokehopkfnipmaaFlM
import Derived.Handy
set_option linter.unusedVariables false
set_option linter.unusedSimpArgs false
namespace Go.Proofs.Ytokehopkfnipmaa
open Go.RowKit

theorem part_set {β : Type} {cur old part : List β} {p s j : Nat} (ho : old.length = s) (hj : j + part.length ≤ s) (hc : p + s ≤ cur.length) (h : ∀ m, m < s → cur[p + m]? = old[m]?) :
  cur.take p ++ (old.take j ++ part ++ old.drop (j + part.length)) ++ cur.drop (p + (old.take j ++ part ++ old.drop (j + part.length)).length) = cur.take (p + j) ++ part ++ cur.drop (p + j + part.length) := by
 have hl : (old.take j ++ part ++ old.drop (j + part.length)).length = s := by simp only [List.length_append, List.length_take, List.length_drop]; omega
 rw [hl]
 apply List.ext_getElem?
 intro k
 by_cases h1 : k < p
 ·rw [List.append_assoc, List.getElem?_append_left (by rw [List.length_take]; omega), List.append_assoc, List.getElem?_append_left (by rw [List.length_take]; omega), List.getElem?_take, List.getElem?_take, if_pos h1, if_pos (by omega)]
 ·by_cases h2 : k < p + s
  ·rw [List.append_assoc, List.getElem?_append_right (by rw [List.length_take]; omega), List.getElem?_append_left (by rw [hl, List.length_take]; omega), List.length_take]
   obtain ⟨m, rfl⟩ : ∃ m, k = p + m := ⟨k - p, by omega⟩
   rw [show p + m - min p cur.length = m from by omega]
   by_cases h3 : m < j
   ·rw [List.append_assoc, List.getElem?_append_left (by rw [List.length_take]; omega), List.append_assoc, List.getElem?_append_left (by rw [List.length_take]; omega), List.getElem?_take, List.getElem?_take, if_pos h3, if_pos (by omega), h m (by omega)]
   ·by_cases h4 : m < j + part.length
    ·rw [List.append_assoc, List.getElem?_append_right (by rw [List.length_take]; omega), List.getElem?_append_left (by rw [List.length_take]; omega), List.append_assoc, List.getElem?_append_right (by rw [List.length_take]; omega), List.getElem?_append_left (by rw [List.length_take]; omega), List.length_take, List.length_take]
     congr 1; omega
    ·rw [List.getElem?_append_right (by simp only [List.length_append, List.length_take]; omega), List.getElem?_drop, List.getElem?_append_right (by simp only [List.length_append, List.length_take]; omega), List.getElem?_drop]
     simp only [List.length_append, List.length_take]
     rw [show p + j + part.length + (p + m - (min (p + j) cur.length + part.length)) = p + m from by omega, h m (by omega)]
     congr 1; omega
  ·rw [List.getElem?_append_right (by simp only [List.length_append, List.length_take, List.length_drop]; omega), List.getElem?_drop, List.getElem?_append_right (by simp only [List.length_append, List.length_take]; omega), List.getElem?_drop]
   simp only [List.length_append, List.length_take, List.length_drop]
   congr 1; omega
section
variable {P : Program} {n : Nat} {E E' : List (Nat × Value)} {a : Act} {w w' w0 w1 : World} {Q : Exit → Act → World → Prop} {ops : Array Oper} {v : Value}
variable {d : Option Nat} {ty : TypeId} {pos : String} {af : Array Edge} {g : Option (Nat × Bool)} {x y z : Operand} {t : TypeId} {rest : List Oper}
theorem soP {α : Type} {R : Rep α} {e by_ B i j : Nat} {A : Option Addr} {c : Nat} {l : List α} {q q' : α} {p : Addr} {old part es : List Value} (h : R.SOwn e by_ w B (Rep.blkOf A) A c l) (hR : R.Bare) (hi : l[i]? = some q) (hold : ∀ {w cs}, R.has w cs q → cs = old) (hx : ev E x = some (.pointer (some p))) (hp : p = ⟨bA A, oA A + i * R.size + j, none⟩) (hy : ev E y = some v) (hc : v.cells = part.toArray)
  (hj : Nat.ble (j + part.length) R.size = true) (hes : es = old.take j ++ part ++ old.drop (j + part.length)) (hq : ∀ w, R.has w es q') (hs : Sz P t part.length)
  (hk : ∀ w1, Mod (Rep.blkOf A) w w1 → R.SOwn e by_ w1 B (Rep.blkOf A) A c (l.set i q') → WL P n ops Q rest E w1) : WL P n ops Q (⟨none, .store t x y, ty, pos, af, none⟩ :: rest) E w := by
 have hil : i < l.length := (List.getElem?_eq_some_iff.1 hi).1
 obtain ⟨b, rfl⟩ := h.block (by omega)
 have hp' : p = ⟨b, i * R.size + j, none⟩ := by rw [hp]; simp [bA, oA]
 subst hp'
 obtain ⟨_, ps, _, _, ho, _⟩ := id h
 obtain ⟨cur, hcur, _, _⟩ := ho.cells_at
 obtain ⟨hset, hle⟩ := Rep.SOwn.setE (q' := q') h hR hil hq hcur
 obtain ⟨b', o', hb', hat⟩ := h.has.at_ (by omega)
 injection hb' with hb'
 injection hb' with hb1 hb2
 subst hb1 hb2
 obtain ⟨es0, he0, hcell⟩ := hat i q hi
 obtain rfl := hold he0
 have hlo : es0.length = R.size := R.len he0
 have hle' : es.length = R.size := R.len (hq w)
 have hj' := Nat.le_of_ble_eq_true hj
 have hcm : ∀ m, m < R.size → cur.toList[i * R.size + m]? = es0[m]? := fun m hm => by
  have hu : es0[m]? = some es0[m] := List.getElem?_eq_getElem (by omega)
  have := hcell m es0[m] hu
  rw [hu]
  simpa [World.cell?, hcur] using this
 have hrow := part_set (cur := cur.toList) (old := es0) (part := part) (p := i * R.size) (s := R.size) (j := j) hlo hj' (by rw [hle'] at hle; exact hle) hcm
 have hone : part.all (·.oneCell') = true := List.all_eq_true.2 fun u hu => R.one (hq w) u (by rw [hes]; simp [hu])
 have hst := run_storeVar (P := P) (w := w) (b := b) (p := i * R.size + j) (cur := cur.toList) (e := e) (by simpa [Blk] using hcur) hc hs hone (by rw [hle'] at hle; omega)
 rw [← hrow, ← hes] at hst
 refine us (fun n a ha => ?_) (hk _ (Mod.setRow w b _) hset)
 simp only [execOp, ha.ev hx, ha.ev hy, Instr.storeAt, Instr.sureAddr, Sem.run_bind, Sem.run_pure, Result.andThen_ok, hst]
end
end Go.Proofs.Ytokehopkfnipmaa
set_option linter.unusedVariables false
set_option linter.unusedSimpArgs false
namespace Go.Proofs.Ytokehopkfnipmaa
open Go.RowKit

section
variable {P : Program} {n : Nat} {E : List (Nat × Value)} {w w' : World} {Q : Exit → Act → World → Prop} {ops : Array Oper} {ty : TypeId} {pos : String} {af : Array Edge} {rest : List Oper} {x y z : Operand} {t u : TypeId} {v rv : Value} {d : Option Nat} {g : Option (Nat × Bool)}
def Meth (P : Program) (w : World) (t : TypeId) (v : Value) (name : String) (f : FuncId) (rv : Value) : Prop := (Go.method (P.types.size + Made.depth) t v name).run P w = .ok (f, rv) w
theorem run_inv {f : FuncId} {name : String} (hf : Enters P f) {xs : Array Operand} {ts : Array TypeId} {args : List Value} {a : Act} (ha : Agr n E a) (hr : ev E x = some (.iface t v)) (he : evs E xs.toList = some args) (hm : Meth P w t v name f rv) :
  (execOp a.eval ⟨d, .call { callee := .invoke x name, args := xs, argTypes := ts }, ty, pos, af, g⟩).run P w = .ok (.enter f (rv :: args).toArray) w := by
 obtain ⟨fn, h1, h2, h3⟩ := hf
 have hx : xs.map a.eval = args.toArray := by rw [← ha.evs he]; apply Array.ext'; simp
 unfold Meth at hm
 have e0 : (#[(Value.iface t v)] ++ args.toArray)[0]? = some (.iface t v) := by simp
 have e1 : (#[(Value.iface t v)] ++ args.toArray).extract 1 (#[(Value.iface t v)] ++ args.toArray).size = args.toArray := by simp
 have e2 : #[rv] ++ args.toArray = (rv :: args).toArray := by simp
 have hp : Sem.run P program w = .ok P w := rfl
 simp only [execOp, resolve, hx, ha.ev hr, Sem.run_bind, Sem.run_pure, Result.andThen_ok, invoke, e0, e1, callMethod, callFunc, hp, hm, h1, h2, h3, e2, Bool.false_eq_true, if_false]
theorem iv {d : Nat} {f : FuncId} {name : String} (hf : Enters P f) {xs : Array Operand} {ts : Array TypeId} {args : List Value} (hr : ev E x = some (.iface t v)) (he : evs E xs.toList = some args) (hm : Meth P w t v name f rv) (hd : Nat.blt d n = true)
  (h : Calls P f (rv :: args).toArray w fun e w' => ∃ v, e = .returned v ∧ WL P n ops Q rest ((d, v) :: E) w') : WL P n ops Q (⟨some d, .call { callee := .invoke x name, args := xs, argTypes := ts }, ty, pos, af, none⟩ :: rest) E w := fun a ha => by
 refine WL_one rfl ?_
 unfold Oper.wp
 rw [run_inv hf ha hr he hm]
 refine Calls.mono h fun e w' hh => ?_
 obtain ⟨v, rfl, h⟩ := hh
 exact h _ (ha.put hd v)
theorem ivC {d : Nat} {f : FuncId} {name : String} {xs : Array Operand} {ts : Array TypeId} {args : List Value} {j : Nat} {q b c : Bool} {oj : Oper} {dj : Nat} {v0 : Value} (hj : ops[j]? = some oj) (hdj : oj.dst = some dj) (hb : look E dj = some (.bool b)) (hc : (b == q) = c)
  (hf : Enters P f) (hx : c = true → ev E x = some (.iface t v0)) (he : c = true → evs E xs.toList = some args) (hm : Meth P w t v0 name f rv) (hr : c = true → Calls P f (rv :: args).toArray w fun e w' => e = .returned v ∧ Ext w w') (hd : Nat.blt d n = true)
  (h : ∀ w', Ext w w' → WL P n ops Q rest ((d, gv c v) :: E) w') : WL P n ops Q (⟨some d, .call { callee := .invoke x name, args := xs, argTypes := ts }, ty, pos, af, some (j, q)⟩ :: rest) E w :=
 wl_if (c := c) (fun a ha => by rw [wanted_some (o := ⟨some d, _, ty, pos, af, some (j, q)⟩) rfl hj hdj hb ha, hc])
  (fun hc a ha => by unfold Oper.wp; rw [run_inv hf ha (hx hc) (he hc) hm]; exact (hr hc).mono fun e w' ⟨h1, hxx⟩ => by subst h1; subst hc; exact h w' hxx _ (ha.put hd v)) (fun hc a ha => by subst hc; exact h w (Ext.rf w) _ (ha.put hd undef))
theorem mkI (hr : ∀ w, (Instr.makeInterface t v).run P w = .ok (.iface t v) w) (hx : ev E x = some v) : Runs P E ⟨d, .makeInterface t x, ty, pos, af, g⟩ w (.iface t v) w := fun n a ha => by
 simp only [execOp, ha.ev hx, Sem.run_bind, hr w, Result.andThen_ok, Sem.run_pure]
theorem tyA {t' : TypeId} (hr : ∀ w, (Instr.typeAssert (.iface t v) t' t false).run P w = .ok v w) (hx : ev E x = some (.iface t v)) : Runs P E ⟨d, .typeAssert x t' t false, ty, pos, af, g⟩ w v w := fun n a ha => by
 simp only [execOp, ha.ev hx, Sem.run_bind, hr w, Result.andThen_ok, Sem.run_pure]
theorem meth_val {e : TypeId} {p : Addr} {name : String} {f : FuncId} (h : (Go.method (P.types.size + Made.depth) t (.pointer (some p)) name).run P w = (loadVar e p >>= fun x => pure (f, x)).run P w) (hl : Lds P w e p v) : Meth P w t (.pointer (some p)) name f v := by
 unfold Meth
 unfold Lds at hl
 rw [h]
 simp only [Sem.run_bind, hl, Result.andThen_ok, Sem.run_pure]
end
end Go.Proofs.Ytokehopkfnipmaa
set_option linter.unusedVariables false
set_option linter.unusedSimpArgs false
namespace Go.Proofs.Ytokehopkfnipmaa
open Go.RowKit

namespace Hp
section
variable {α : Type} [Inhabited α] {key : α → Int} {lm l : List α} {m N n : Nat}
theorem up_exit (h : (((((m - 1) / 2 : Nat) : Int) == (m : Int)) || !decide (key (lm.getD m default) < key (lm.getD ((m - 1) / 2) default))) = true) : upF key lm m = lm := by
 unfold upF
 rw [if_neg]
 rintro ⟨h1, h2⟩
 simp only [Bool.or_eq_true, beq_iff_eq, Bool.not_eq_true', decide_eq_false_iff_not] at h
 rcases h with h | h
 ·omega
 ·exact h h2
theorem up_more (h : (((((m - 1) / 2 : Nat) : Int) == (m : Int)) || !decide (key (lm.getD m default) < key (lm.getD ((m - 1) / 2) default))) = false) : 0 < m ∧ upF key lm m = upF key (swp lm ((m - 1) / 2) m) ((m - 1) / 2) := by
 simp only [Bool.or_eq_false_iff, beq_eq_false_iff_ne, Bool.not_eq_false', decide_eq_true_eq] at h
 have hm : 0 < m := by
  rcases Nat.eq_zero_or_pos m with h0 | h0
  ·subst h0; exact absurd rfl h.1
  ·exact h0
 refine ⟨hm, ?_⟩
 conv => lhs; unfold upF
 rw [if_pos ⟨hm, h.2⟩]
theorem dn_exit (h : (decide ((N : Int) ≤ 2 * (m : Int) + 1) || decide (2 * (m : Int) + 1 < 0)) = true) : downF key N l m = l := by
 unfold downF
 rw [if_neg]
 simp only [Bool.or_eq_true, decide_eq_true_eq] at h
 omega
theorem dn_go (h : (decide ((N : Int) ≤ 2 * (m : Int) + 1) || decide (2 * (m : Int) + 1 < 0)) = false) : 2 * m + 1 < N := by
 simp only [Bool.or_eq_false_iff, decide_eq_false_iff_not] at h
 omega
theorem low_two (h : (decide (2 * (m : Int) + 1 + 1 < (N : Int)) && decide (key (l.getD (2 * m + 1 + 1) default) < key (l.getD (2 * m + 1) default))) = true) : lowC key N l m = 2 * m + 2 := by
 simp only [Bool.and_eq_true, decide_eq_true_eq] at h
 unfold lowC
 rw [if_pos ⟨by omega, h.2⟩]
theorem low_lt {q : Bool} (h : (decide (2 * (m : Int) + 1 + 1 < (N : Int)) && q) = true) : 2 * m + 2 < N := by
 simp only [Bool.and_eq_true, decide_eq_true_eq] at h
 omega
theorem low_one (h : (decide (2 * (m : Int) + 1 + 1 < (N : Int)) && decide (key (l.getD (2 * m + 1 + 1) default) < key (l.getD (2 * m + 1) default))) = false) : lowC key N l m = 2 * m + 1 := by
 unfold lowC
 rw [if_neg]
 rintro ⟨h1, h2⟩
 rw [decide_eq_true (show 2 * (m : Int) + 1 + 1 < (N : Int) by omega), decide_eq_true (show key (l.getD (2 * m + 1 + 1) default) < key (l.getD (2 * m + 1) default) from h2)] at h
 cases h
theorem dn_exit2 {j : Nat} (h1 : 2 * m + 1 < N) (hl : lowC key N l m = j) (h : (!decide (key (l.getD j default) < key (l.getD m default))) = true) : downF key N l m = l := by
 unfold downF
 rw [if_neg]
 rw [hl]
 rintro ⟨_, h2⟩
 rw [decide_eq_true h2] at h; cases h
theorem dn_more {j : Nat} (h1 : 2 * m + 1 < N) (hl : lowC key N l m = j) (h : (!decide (key (l.getD j default) < key (l.getD m default))) = false) : downF key N l m = downF key N (swp l m j) j := by
 conv => lhs; unfold downF
 rw [hl, if_pos ⟨h1, by simpa using h⟩]
end
end Hp
theorem tdiv_half (m : Nat) : Int.tdiv ((m : Int) - 1) 2 = (((m - 1) / 2 : Nat) : Int) := by
 cases m with
 | zero => rfl
 | succ m =>
  rw [show ((m + 1 : Nat) : Int) - 1 = (m : Int) by omega, Int.tdiv_eq_ediv_of_nonneg (by omega)]
  simp
section
variable {P : Program} {n : Nat} {E : List (Nat × Value)} {w : World} {ty : TypeId} {pos : String} {af : Array Edge} {x y : Operand} {t u : TypeId} {d : Option Nat} {g : Option (Nat × Bool)}
theorem bquH {k : IntKind} {i j r : Int} (hx : ev E x = some (.int k i)) (hy : ev E y = some (.int k j)) (h1 : j ≠ 0) (hr : Int.tdiv i j = r) (hw : k.wrap r = r) : Runs P E ⟨d, .binOp .quo t x y u, ty, pos, af, g⟩ w (.int k r) w := run_bin hx hy (binOp_quo t k i j) (by
 subst hr
 have : Op.intDiv .quo k i j = pure (.int k (Int.tdiv i j)) := by simp [Op.intDiv, h1, hw]
 rw [this]; rfl)
end
end Go.Proofs.Ytokehopkfnipmaa
set_option linter.unusedVariables false
set_option linter.unusedSimpArgs false
namespace Go.Proofs.Ytokehopkfnipmaa
open Go.RowKit

theorem Pq_sz_path_node : Sz Try.prog 250 4 := fun _ => by kernel_rfl
theorem Pq_fd_path_node_2 : Fd Try.prog 250 2 3 := fun _ _ _ => by kernel_rfl
theorem Pq_ag_int : Ag Try.prog 3 false := fun _ => by kernel_rfl
theorem Pq_ag_path_node : Ag Try.prog 250 true := fun _ => by kernel_rfl
theorem Pq_ag_path_open : Ag Try.prog 227 false := fun _ => by kernel_rfl
theorem Pq_en__path_open__Less : Enters Try.prog 200 := en Try.func200 (by kernel_rfl) (by kernel_rfl)
theorem Pq_en__path_open__Swap : Enters Try.prog 201 := en Try.func201 (by kernel_rfl) (by kernel_rfl)
theorem Pq_el_path_open : ElT Try.prog Nod.rep 227 250 32 := ElT.mk_ (z := Nod.zero) (k := 4) Try.underlying227 Nod.info rfl rfl (by decide) Nod.zero_raw
theorem Pq_sz_path_open : Sz Try.prog 227 1 := fun _ => by kernel_rfl
theorem Pq_zv_path_node : Zv Try.prog 250 (.agg #[.int .i64 0, .int .i64 0, .int .i64 0, .int .i64 0]) := fun _ => by kernel_rfl
theorem Pq_en__P_path_open__Push : Enters Try.prog 203 := en Try.func203 (by kernel_rfl) (by kernel_rfl)
theorem Pq_en__path_open__Len : Enters Try.prog 178 := en Try.func178 (by kernel_rfl) (by kernel_rfl)
theorem Pq_en_container_heap_up : Enters Try.prog 182 := en Try.func182 (by kernel_rfl) (by kernel_rfl)
theorem Pq_en_container_heap_down : Enters Try.prog 183 := en Try.func183 (by kernel_rfl) (by kernel_rfl)
theorem Pq_en__P_path_open__Pop : Enters Try.prog 202 := en Try.func202 (by kernel_rfl) (by kernel_rfl)
theorem hcNo {w : World} {cs : List Value} {a : Nod} (h : Nod.rep.has w cs a) : cs = a.cells := And.left (show cs = a.cells ∧ a.ok from h)
set_option maxRecDepth 100000 in
set_option maxHeartbeats 400000 in
theorem xP_len (A : Option Addr) (n c : Nat) (w : World) :
  Calls Try.prog 178 #[.slice A n c] w (fun e w' => e = .returned (.int .i64 (n : Int)) ∧ Ext w w') := by
 refine calls_W (n := 5) Try.func178 rfl rfl rfl ?_
 refine sq <| rg <| vl (as_ rfl) rfl <| nl <| nT <| sq <| rg <| vl (mv rfl) rfl <| vl (ln Try.underlying227 rfl) rfl <| vl (as_ rfl) rfl <| nl <| nT <| rt <| tR (.tmp rfl .nil) <| ?_
 exact ⟨rfl, (Ext.rf w)⟩
set_option maxRecDepth 100000 in
set_option maxHeartbeats 400000 in
theorem xP_less (A : Option Addr) (n c : Nat) (l : List Nod) (i j : Int) (p q : Nat) (w : World) (hl : Nod.rep.SHas 32 w A c l) (hn : l.length = n) (hi : i = (p : Int)) (hj : j = (q : Int)) (hp : p < n) (hq : q < n) :
  Calls Try.prog 200 #[.slice A n c, .int .i64 i, .int .i64 j] w (fun e w' => e = .returned (.bool (decide ((l.getD p default).all < (l.getD q default).all))) ∧ Ext w w') := by
 refine calls_W (n := 18) Try.func200 rfl rfl rfl ?_
 refine sq <| rg <| vl (as_ rfl) rfl <| nl <| nT <| sq <| ?_
 refine rd [(4, 0), (9, 0)] [0, 1, 2, 3, 4, 5, 6, 7, 8, 9, 10, 11] (by kernel_rfl) (by kernel_rfl) ?_
 refine fw rfl rfl (fun _ => mv rfl) rfl <| fw rfl rfl (fun _ => mv rfl) rfl <| fw rfl rfl (fun _ => iA i.toNat Try.underlying227 Pq_sz_path_node rfl rfl ((hl.keep (Ext.rf w)).adr (Nat.zero_lt_of_lt (show i.toNat < _ from (by omega)))) (by omega) (by omega)) rfl <| fw rfl rfl (fun _ => fa Pq_fd_path_node_2 rfl) rfl <| fq rfl rfl (fun _ x => ld rfl (Rep.SHas.fld hcNo ((hl.keep (Ext.tr (Ext.rf w) x)).adh (Nat.zero_lt_of_lt (show i.toNat < _ from (by omega)))) 3 (get_d (l := l) (u := default) (by omega)) rfl Pq_ag_int)) rfl <| fw rfl rfl (fun _ => mv rfl) rfl <| fw rfl rfl (fun _ => mv rfl) rfl <| fw rfl rfl (fun _ => iA j.toNat Try.underlying227 Pq_sz_path_node rfl rfl ((hl.keep (Ext.rf w)).adr (Nat.zero_lt_of_lt (show j.toNat < _ from (by omega)))) (by omega) (by omega)) rfl <| fw rfl rfl (fun _ => fa Pq_fd_path_node_2 rfl) rfl <| fq rfl rfl (fun _ x => ld rfl (Rep.SHas.fld hcNo ((hl.keep (Ext.tr (Ext.rf w) x)).adh (Nat.zero_lt_of_lt (show j.toNat < _ from (by omega)))) 3 (get_d (l := l) (u := default) (by omega)) rfl Pq_ag_int)) rfl <| fw rfl rfl (fun _ => blt rfl rfl) rfl <| fw rfl rfl (fun _ => as_ rfl) rfl <| fn fun w_1 x_2 => ?_
 have q_3 := x_2.size
 have z_1 := Ext.tr (Ext.rf w) x_2
 refine nT <| rt <| tR (.tmp rfl .nil) <| ?_
 subst hi hj; exact ⟨by simp only [Int.toNat_natCast]; rfl, z_1⟩
set_option maxRecDepth 100000 in
set_option maxHeartbeats 400000 in
theorem xP_swap (A : Option Addr) (n c Z : Nat) (l : List Nod) (i j : Int) (p q : Nat) (w : World) (HO : Nod.rep.SOwn 250 32 w Z (Rep.blkOf A) A c (l)) (hok : ∀ y ∈ l, y.ok) (hn : l.length = n) (hi : i = (p : Int)) (hj : j = (q : Int)) (hp : p < n) (hq : q < n) :
  Calls Try.prog 201 #[.slice A n c, .int .i64 i, .int .i64 j] w (fun e w' => e = .returned (.tuple #[]) ∧ Nod.rep.SOwn 250 32 w' Z (Rep.blkOf A) A c (Hp.swp l p q) ∧ Mod (Rep.blkOf A) w w') := by
 have uO := fun q hq => (HO.lt q hq).2
 refine calls_W (n := 20) Try.func201 rfl rfl rfl ?_
 refine rd [(7, 0), (11, 0), (13, 3), (15, 3)] [0, 1, 2, 3, 4, 5, 6, 7, 8, 9, 10, 11, 12, 13, 14, 15] (by kernel_rfl) (by kernel_rfl) ?_
 refine fw rfl rfl (fun _ => mv rfl) rfl <| fw rfl rfl (fun _ => mv rfl) rfl <| fw rfl rfl (fun _ => mv rfl) rfl <| fw rfl rfl (fun _ => mv rfl) rfl <| fw rfl rfl (fun _ => mv rfl) rfl <| fw rfl rfl (fun _ => mv rfl) rfl <| fw rfl rfl (fun _ => iA j.toNat Try.underlying227 Pq_sz_path_node rfl rfl (HO.has.adr (Nat.zero_lt_of_lt (show j.toNat < _ from (by first | omega | (rw [List.length_set]; omega))))) (by omega) (by first | omega | (rw [List.length_set]; omega))) rfl <| fq rfl rfl (fun _ x => ld rfl (Rep.SHas.elt hcNo ((HO.later x).has.adh (Nat.zero_lt_of_lt (show j.toNat < _ from (by first | omega | (rw [List.length_set]; omega))))) (get_d (l := l) (u := default) (by first | omega | (rw [List.length_set]; omega))) Pq_ag_path_node Pq_sz_path_node)) rfl <| fw rfl rfl (fun _ => mv rfl) rfl <| fw rfl rfl (fun _ => mv rfl) rfl <| fw rfl rfl (fun _ => iA i.toNat Try.underlying227 Pq_sz_path_node rfl rfl (HO.has.adr (Nat.zero_lt_of_lt (show i.toNat < _ from (by first | omega | (rw [List.length_set]; omega))))) (by omega) (by first | omega | (rw [List.length_set]; omega))) rfl <| fq rfl rfl (fun _ x => ld rfl (Rep.SHas.elt hcNo ((HO.later x).has.adh (Nat.zero_lt_of_lt (show i.toNat < _ from (by first | omega | (rw [List.length_set]; omega))))) (get_d (l := l) (u := default) (by first | omega | (rw [List.length_set]; omega))) Pq_ag_path_node Pq_sz_path_node)) rfl <| fw rfl rfl (fun _ => iA i.toNat Try.underlying227 Pq_sz_path_node rfl rfl (HO.has.adr (Nat.zero_lt_of_lt (show i.toNat < _ from (by first | omega | (rw [List.length_set]; omega))))) (by omega) (by first | omega | (rw [List.length_set]; omega))) rfl <| fb rfl rfl rfl fun w_1 x_2 Q hK => soE (q' := l.getD j.toNat default) (i := i.toNat) (es := [.int .i64 ((l.getD j.toNat default).cell.x), .int .i64 ((l.getD j.toNat default).cell.y), .int .i64 ((l.getD j.toNat default).far), .int .i64 ((l.getD j.toNat default).all)]) (HO.later x_2) Rep.flat_bare (by first | omega | (rw [List.length_set]; omega)) rfl rfl rfl rfl (fun _ => ⟨rfl, (hok _ (mem_dd (by omega)))⟩) Pq_sz_path_node fun w_3 m_4 O_5 => hK _ _ ?_
 have q_6 := x_2.size
 have z_1 := (Mod.rf (Rep.blkOf A) w).trans (Mod.of_ext x_2)
 have q_7 := m_4.size
 have z_3 := z_1.md m_4 (fun q hq => .inl hq)
 have q_8 := m_4.size
 refine fw rfl rfl (fun _ => iA j.toNat Try.underlying227 Pq_sz_path_node rfl rfl (O_5.has.adr (Nat.zero_lt_of_lt (show j.toNat < _ from (by first | omega | (rw [List.length_set]; omega))))) (by omega) (by first | omega | (rw [List.length_set]; omega))) rfl <| fb rfl rfl rfl fun w_9 x_10 Q hK => soE (q' := l.getD i.toNat default) (i := j.toNat) (es := [.int .i64 ((l.getD i.toNat default).cell.x), .int .i64 ((l.getD i.toNat default).cell.y), .int .i64 ((l.getD i.toNat default).far), .int .i64 ((l.getD i.toNat default).all)]) (O_5.later x_10) Rep.flat_bare (by first | omega | (rw [List.length_set]; omega)) rfl rfl rfl rfl (fun _ => ⟨rfl, (hok _ (mem_dd (by omega)))⟩) Pq_sz_path_node fun w_11 m_12 O_13 => hK _ _ ?_
 have q_14 := x_10.size
 have z_9 := z_3.trans (Mod.of_ext x_10)
 have q_15 := m_12.size
 have z_11 := z_9.md m_12 (fun q hq => .inl hq)
 have q_16 := m_12.size
 refine fn fun w_17 x_18 => ?_
 have q_19 := x_18.size
 have z_17 := z_11.trans (Mod.of_ext x_18)
 refine ne <| tR .nil <| ?_
 have O_13 := O_13.later x_18
 subst hi hj; simp only [Int.toNat_natCast] at O_13; exact ⟨rfl, O_13, z_17⟩
set_option maxRecDepth 100000 in
set_option maxHeartbeats 400000 in
theorem xP_up (b : Nat) (A : Option Addr) (n c Z : Nat) (l : List Nod) (v0 v1 v2 v3 v4 v5 : Value) (j : Nat) (w : World) (HB : Blk w b [v0, v1, v2, v3, v4, v5, .slice A n c] 229 (0, 0)) (HO : Nod.rep.SOwn 250 32 w Z (Rep.blkOf A) A c (l)) (hok : ∀ y ∈ l, y.ok) (hn : l.length = n) (hd : ∀ q ∈ Rep.blkOf A, q = b → False) (hj : j < n) :
  Calls Try.prog 182 #[.iface 248 (.pointer (some ⟨b, 6, none⟩)), .int .i64 (j : Int)] w (fun e w' => e = .returned (.tuple #[]) ∧ Blk w' b [v0, v1, v2, v3, v4, v5, .slice A n c] 229 (0, 0) ∧ Nod.rep.SOwn 250 32 w' Z (Rep.blkOf A) A c (Hp.upF Nod.all l j) ∧ Mod (Rep.blkOf A) w w') := by
 have uO := fun q hq => (HO.lt q hq).2
 have qB := HB.lt
 have hn63 := HO.has.2.1
 have hn64 := HO.has.len_le
 have hn65 := HO.has.1
 refine calls_W (n := 23) Try.func182 rfl rfl rfl ?_
 refine bk <| ?_
 refine lp (fun mI EI wI => ∃ lm : List Nod, ∃ m : Nat, EI = [(0, .iface 248 (.pointer (some ⟨b, 6, none⟩))), (1, .int .i64 (m : Int))] ∧ mI = (2 * m) ∧ Mod (Rep.blkOf A) w wI ∧ Blk wI b [v0, v1, v2, v3, v4, v5, .slice A n c] 229 (0, 0) ∧ Nod.rep.SOwn 250 32 wI Z (Rep.blkOf A) A c (lm) ∧ (m < n) ∧ (lm.length = n) ∧ (∀ y ∈ lm, y.ok) ∧ (Hp.upF Nod.all lm m = Hp.upF Nod.all l j) ∧ (∀ q ∈ Rep.blkOf A, q = b → False)) _ _ ⟨l, j, rfl, rfl, (Mod.rf (Rep.blkOf A) w), HB, HO, by omega, by omega, hok, rfl, (fun q hq hb => by (exact hd q hq hb))⟩ (.cons rfl (.cons rfl .nil)) ?_
 rintro m_3 E_4 w_2 ⟨lm, m, rfl, rfl, z_2, HB, HOm, hm, hlm, hokm, hup, d_1⟩
 have q_5 := z_2.size
 have q_6 := HB.lt
 have u_7 := fun q hq => (HOm.lt q hq).2
 refine bk <| sq <| rg <| vl (mv rfl) rfl <| vl (bsu rfl rfl (inI (by omega))) rfl <| vl (bquH (r := (((m - 1) / 2 : Nat) : Int)) rfl rfl (by decide) (tdiv_half m) (inI (by omega))) rfl <| vl (as_ rfl) rfl <| nl <| nT <| sq <| sq <| rg <| vl (mv rfl) rfl <| vl (mv rfl) rfl <| vl (beq rfl rfl) rfl <| vl (mv rfl) rfl <| vQ rfl rfl rfl rfl (fun hc => mv rfl) rfl <| vQ rfl rfl rfl rfl (fun hc => mv rfl) rfl <| vQ rfl rfl rfl rfl (fun hc => mv rfl) rfl <| ivC rfl rfl rfl rfl Pq_en__path_open__Less (fun hc => (gt hc rfl)) (fun hc => ec (gt hc rfl) (ec (gt hc rfl) rfl)) (meth_val (e := 227) (by kernel_rfl) (HB.one Pq_ag_path_open rfl)) (fun hc => xP_less _ _ _ lm (m : Int) ((((m - 1) / 2 : Nat) : Int)) m ((m - 1) / 2) _ HOm.has (by omega) (by omega) (by omega) (by first | omega | (simp only [Bool.or_eq_true, Bool.or_eq_false_iff, Bool.and_eq_true, Bool.and_eq_false_iff, decide_eq_true_eq, decide_eq_false_iff_not, beq_iff_eq, bne_iff_ne, beq_eq_false_iff_ne, bne_eq_false_iff_eq, Bool.not_eq_true', Bool.not_eq_false', Bool.not_eq_true, Bool.not_eq_false, Int.not_lt, Int.not_le, Nat.not_lt, Nat.not_le, ne_eq, Classical.not_not] at hc; omega)) (by first | omega | (simp only [Bool.or_eq_true, Bool.or_eq_false_iff, Bool.and_eq_true, Bool.and_eq_false_iff, decide_eq_true_eq, decide_eq_false_iff_not, beq_iff_eq, bne_iff_ne, beq_eq_false_iff_ne, bne_eq_false_iff_eq, Bool.not_eq_true', Bool.not_eq_false', Bool.not_eq_true, Bool.not_eq_false, Int.not_lt, Int.not_le, Nat.not_lt, Nat.not_le, ne_eq, Classical.not_not] at hc; omega))) rfl fun w_8 x_9 => ?_
 have q_10 := x_9.size
 have z_8 := z_2.trans (Mod.of_ext x_9)
 refine vQ rfl rfl rfl rfl (fun hc => nt (gt hc rfl)) rfl <| vl (pO rfl rfl rfl rfl) rfl <| nl <| nT <| ?_
 refine cb rfl (fun h_11 => ?_) (fun h_11 => ?_)
 ·have hex := Hp.up_exit (key := Nod.all) h_11
  rw [hex] at hup
  refine xt <| xT <| xN rfl <| xK <| xB <| ne <| tR .nil <| ?_
  have HOm := HOm.later x_9
  have HB := HB.later x_9
  exact ⟨rfl, HB, by rw [← hup]; exact HOm, z_8⟩
 ·obtain ⟨hm0, hnx⟩ := Hp.up_more (key := Nod.all) h_11
  refine sk <| nT <| sq <| rg <| vl (mv rfl) rfl <| vl (mv rfl) rfl <| vl (mv rfl) rfl <| ?_
  have HB := HB.later x_9
  have HOm := HOm.later x_9
  refine iv Pq_en__path_open__Swap rfl rfl (meth_val (e := 227) (by kernel_rfl) (HB.one Pq_ag_path_open rfl)) rfl ((xP_swap _ _ _ _ lm ((((m - 1) / 2 : Nat) : Int)) (m : Int) ((m - 1) / 2) m _ HOm hokm (by omega) (by omega) (by omega) (by omega) (by omega)).mono ?_)
  rintro e w_14 ⟨rfl, O_12, m_13⟩
  refine ⟨_, rfl, ?_⟩
  have q_15 := m_13.size
  have z_14 := z_8.md m_13 (fun q hq => .inl hq)
  have hokO_12 : ∀ y ∈ Hp.swp lm ((m - 1) / 2) m, y.ok := fun y hy => hokm y ((Hp.swp_perm (by omega) (by omega)).subset hy)
  have hlenO_12 : (Hp.swp lm ((m - 1) / 2) m).length = n := by rw [Hp.swp_len]; omega
  refine nl <| nT <| rg <| vl (mv rfl) rfl <| vl (as_ rfl) rfl <| nl <| nB <| ?_
  have HB := HB.mod m_13 (fun hq => d_1 _ hq rfl)
  exact nI _ _ ⟨Hp.swp lm ((m - 1) / 2) m, (m - 1) / 2, rfl, rfl, z_14, HB, O_12, by omega, hlenO_12, hokO_12, hnx.symm.trans hup, (fun q hq hb => by (exact d_1 q hq hb))⟩ (by omega) (.cons rfl (.cons (loI rfl (by first | omega | rfl | (simp <;> omega))) .nil))
set_option maxRecDepth 100000 in
set_option maxHeartbeats 400000 in
theorem xP_down (b : Nat) (A : Option Addr) (n c Z : Nat) (l : List Nod) (v0 v1 v2 v3 v4 v5 : Value) (i N : Nat) (w : World) (HB : Blk w b [v0, v1, v2, v3, v4, v5, .slice A n c] 229 (0, 0)) (HO : Nod.rep.SOwn 250 32 w Z (Rep.blkOf A) A c (l)) (hok : ∀ y ∈ l, y.ok) (hn : l.length = n) (hd : ∀ q ∈ Rep.blkOf A, q = b → False) (hi : i < n) (hN : N ≤ n) (hbig : n ≤ 1000000) :
  Calls Try.prog 183 #[.iface 248 (.pointer (some ⟨b, 6, none⟩)), .int .i64 (i : Int), .int .i64 (N : Int)] w (fun e w' => (∃ v, e = .returned (.bool v)) ∧ Blk w' b [v0, v1, v2, v3, v4, v5, .slice A n c] 229 (0, 0) ∧ Nod.rep.SOwn 250 32 w' Z (Rep.blkOf A) A c (Hp.downF Nod.all N l i) ∧ Mod (Rep.blkOf A) w w') := by
 have uO := fun q hq => (HO.lt q hq).2
 have qB := HB.lt
 have hn63 := HO.has.2.1
 have hn64 := HO.has.len_le
 have hn65 := HO.has.1
 refine calls_W (n := 48) Try.func183 rfl rfl rfl ?_
 refine sq <| rg <| vl (as_ rfl) rfl <| nl <| nT <| sq <| rg <| vl (mv rfl) rfl <| vl (as_ rfl) rfl <| nl <| nT <| sq <| bk <| ?_
 refine lp (fun mI EI wI => ∃ lm : List Nod, ∃ m : Nat, EI = [(0, .iface 248 (.pointer (some ⟨b, 6, none⟩))), (1, .int .i64 (i : Int)), (2, .int .i64 (N : Int)), (6, .bool false), (7, .int .i64 (m : Int))] ∧ mI = N - m ∧ Mod (Rep.blkOf A) w wI ∧ Blk wI b [v0, v1, v2, v3, v4, v5, .slice A n c] 229 (0, 0) ∧ Nod.rep.SOwn 250 32 wI Z (Rep.blkOf A) A c (lm) ∧ (m < n) ∧ (lm.length = n) ∧ (∀ y ∈ lm, y.ok) ∧ (Hp.downF Nod.all N lm m = Hp.downF Nod.all N l i) ∧ (∀ q ∈ Rep.blkOf A, q = b → False)) _ _ ⟨l, i, rfl, rfl, (Mod.rf (Rep.blkOf A) w), HB, HO, by omega, by omega, hok, rfl, (fun q hq hb => by (exact hd q hq hb))⟩ (.cons rfl (.cons rfl (.cons rfl (.cons rfl (.cons rfl .nil))))) ?_
 rintro m_3 E_4 w_2 ⟨lm, m, rfl, rfl, z_2, HB, HOm, hm, hlm, hokm, hup, d_1⟩
 have q_5 := z_2.size
 have q_6 := HB.lt
 have u_7 := fun q hq => (HOm.lt q hq).2
 refine bk <| sq <| rg <| vl (mv rfl) rfl <| vl (bmu rfl rfl (inI (by omega))) rfl <| vl (bad rfl rfl (inI (by omega))) rfl <| vl (as_ rfl) rfl <| nl <| nT <| sq <| sq <| rg <| vl (mv rfl) rfl <| vl (mv rfl) rfl <| vl (bge rfl rfl) rfl <| vl (mv rfl) rfl <| vQ rfl rfl rfl rfl (fun hc => mv rfl) rfl <| vQ rfl rfl rfl rfl (fun hc => blt (gt hc rfl) rfl) rfl <| vl (pO rfl rfl rfl rfl) rfl <| nl <| nT <| ?_
 refine cb rfl (fun h_8 => ?_) (fun h_8 => ?_)
 ·have hex := Hp.dn_exit (key := Nod.all) (l := lm) h_8
  rw [hex] at hup
  refine xt <| xT <| xN rfl <| xK <| xB <| nT <| sq <| rg <| vl (mv rfl) rfl <| vl (mv rfl) rfl <| vl (bgt rfl rfl) rfl <| vl (as_ rfl) rfl <| nl <| nT <| rt <| tR (.tmp rfl .nil) <| ?_
  skip
  exact ⟨⟨_, rfl⟩, HB, by rw [← hup]; exact HOm, z_2⟩
 ·have hc1 := Hp.dn_go h_8
  refine sk <| nT <| sq <| rg <| vl (mv rfl) rfl <| vl (as_ rfl) rfl <| nl <| nT <| sq <| sq <| rg <| vl (mv rfl) rfl <| vl (bad rfl rfl (inI (by omega))) rfl <| vl (as_ rfl) rfl <| nl <| nT <| sq <| rg <| vl (mv rfl) rfl <| vl (mv rfl) rfl <| vl (blt rfl rfl) rfl <| vl (mv rfl) rfl <| vQ rfl rfl rfl rfl (fun hc => mv rfl) rfl <| vQ rfl rfl rfl rfl (fun hc => mv rfl) rfl <| ?_
  refine vQ rfl rfl rfl rfl (fun hc => mv rfl) rfl <| ivC rfl rfl rfl rfl Pq_en__path_open__Less (fun hc => (gt hc rfl)) (fun hc => ec (gt hc rfl) (ec (gt hc rfl) rfl)) (meth_val (e := 227) (by kernel_rfl) (HB.one Pq_ag_path_open rfl)) (fun hc => xP_less _ _ _ lm (((2 * (m : Int)) + 1) + 1) ((2 * (m : Int)) + 1) (((2 * m) + 1) + 1) ((2 * m) + 1) _ HOm.has (by omega) (by omega) (by omega) (by first | omega | (simp only [Bool.or_eq_true, Bool.or_eq_false_iff, Bool.and_eq_true, Bool.and_eq_false_iff, decide_eq_true_eq, decide_eq_false_iff_not, beq_iff_eq, bne_iff_ne, beq_eq_false_iff_ne, bne_eq_false_iff_eq, Bool.not_eq_true', Bool.not_eq_false', Bool.not_eq_true, Bool.not_eq_false, Int.not_lt, Int.not_le, Nat.not_lt, Nat.not_le, ne_eq, Classical.not_not] at hc; omega)) (by first | omega | (simp only [Bool.or_eq_true, Bool.or_eq_false_iff, Bool.and_eq_true, Bool.and_eq_false_iff, decide_eq_true_eq, decide_eq_false_iff_not, beq_iff_eq, bne_iff_ne, beq_eq_false_iff_ne, bne_eq_false_iff_eq, Bool.not_eq_true', Bool.not_eq_false', Bool.not_eq_true, Bool.not_eq_false, Int.not_lt, Int.not_le, Nat.not_lt, Nat.not_le, ne_eq, Classical.not_not] at hc; omega))) rfl fun w_9 x_10 => ?_
  have q_11 := x_10.size
  have z_9 := z_2.trans (Mod.of_ext x_10)
  refine vl (pA rfl rfl rfl rfl) rfl <| nl <| nT <| ?_
  refine cb rfl (fun h_12 => ?_) (fun h_12 => ?_)
  ·have hlow := Hp.low_two (key := Nod.all) (l := lm) (m := m) h_12
   have hc2 := Hp.low_lt h_12
   refine rg <| vl (mv rfl) rfl <| vl (as_ rfl) rfl <| nl <| nT <| sq <| sq <| rg <| vl (mv rfl) rfl <| vl (mv rfl) rfl <| vl (mv rfl) rfl <| ?_
   have HB := HB.later x_10
   have HOm := HOm.later x_10
   refine iv Pq_en__path_open__Less rfl rfl (meth_val (e := 227) (by kernel_rfl) (HB.one Pq_ag_path_open rfl)) rfl ((xP_less _ _ _ lm (((2 * (m : Int)) + 1) + 1) (m : Int) (((2 * m) + 1) + 1) m _ HOm.has (by omega) (by omega) (by omega) (by first | omega | (simp only [Bool.or_eq_true, Bool.or_eq_false_iff, Bool.and_eq_true, Bool.and_eq_false_iff, decide_eq_true_eq, decide_eq_false_iff_not, beq_iff_eq, bne_iff_ne, beq_eq_false_iff_ne, bne_eq_false_iff_eq, Bool.not_eq_true', Bool.not_eq_false', Bool.not_eq_true, Bool.not_eq_false, Int.not_lt, Int.not_le, Nat.not_lt, Nat.not_le, ne_eq, Classical.not_not] at hc; omega)) (by first | omega | (simp only [Bool.or_eq_true, Bool.or_eq_false_iff, Bool.and_eq_true, Bool.and_eq_false_iff, decide_eq_true_eq, decide_eq_false_iff_not, beq_iff_eq, bne_iff_ne, beq_eq_false_iff_ne, bne_eq_false_iff_eq, Bool.not_eq_true', Bool.not_eq_false', Bool.not_eq_true, Bool.not_eq_false, Int.not_lt, Int.not_le, Nat.not_lt, Nat.not_le, ne_eq, Classical.not_not] at hc; omega))).mono ?_)
   rintro e w_13 ⟨rfl, x_14⟩
   refine ⟨_, rfl, ?_⟩
   have q_15 := x_14.size
   have z_13 := z_9.trans (Mod.of_ext x_14)
   refine vl (nt rfl) rfl <| nl <| nT <| ?_
   refine cb rfl (fun h_16 => ?_) (fun h_16 => ?_)
   ·have hex := Hp.dn_exit2 (key := Nod.all) hc1 hlow h_16
    rw [hex] at hup
    refine xt <| xT <| xN rfl <| xK <| xB <| nT <| sq <| rg <| vl (mv rfl) rfl <| vl (mv rfl) rfl <| vl (bgt rfl rfl) rfl <| vl (as_ rfl) rfl <| nl <| nT <| rt <| tR (.tmp rfl .nil) <| ?_
    skip
    have HOm := HOm.later x_14
    have HB := HB.later x_14
    exact ⟨⟨_, rfl⟩, HB, by rw [← hup]; exact HOm, z_13⟩
   ·have hnx := Hp.dn_more (key := Nod.all) hc1 hlow h_16
    refine sk <| nT <| sq <| rg <| vl (mv rfl) rfl <| vl (mv rfl) rfl <| vl (mv rfl) rfl <| ?_
    have HB := HB.later x_14
    have HOm := HOm.later x_14
    refine iv Pq_en__path_open__Swap rfl rfl (meth_val (e := 227) (by kernel_rfl) (HB.one Pq_ag_path_open rfl)) rfl ((xP_swap _ _ _ _ lm (m : Int) (((2 * (m : Int)) + 1) + 1) m (((2 * m) + 1) + 1) _ HOm hokm (by omega) (by omega) (by omega) (by omega) (by omega)).mono ?_)
    rintro e w_19 ⟨rfl, O_17, m_18⟩
    refine ⟨_, rfl, ?_⟩
    have q_20 := m_18.size
    have z_19 := z_13.md m_18 (fun q hq => .inl hq)
    have hokO_17 : ∀ y ∈ Hp.swp lm m (((2 * m) + 1) + 1), y.ok := fun y hy => hokm y ((Hp.swp_perm (by omega) (by omega)).subset hy)
    have hlenO_17 : (Hp.swp lm m (((2 * m) + 1) + 1)).length = n := by rw [Hp.swp_len]; omega
    refine nl <| nT <| rg <| vl (mv rfl) rfl <| vl (as_ rfl) rfl <| nl <| nB <| ?_
    have HB := HB.mod m_18 (fun hq => d_1 _ hq rfl)
    exact nI _ _ ⟨Hp.swp lm m (((2 * m) + 1) + 1), 2 * m + 2, rfl, rfl, z_19, HB, O_17, by omega, hlenO_17, hokO_17, hnx.symm.trans hup, (fun q hq hb => by (exact d_1 q hq hb))⟩ (by omega) (.cons rfl (.cons rfl (.cons rfl (.cons rfl (.cons (loI rfl (by first | omega | rfl | (simp <;> omega))) .nil)))))
  ·have hlow := Hp.low_one (key := Nod.all) (l := lm) (m := m) h_12
   refine sk <| nT <| sq <| sq <| rg <| vl (mv rfl) rfl <| vl (mv rfl) rfl <| vl (mv rfl) rfl <| ?_
   have HB := HB.later x_10
   have HOm := HOm.later x_10
   refine iv Pq_en__path_open__Less rfl rfl (meth_val (e := 227) (by kernel_rfl) (HB.one Pq_ag_path_open rfl)) rfl ((xP_less _ _ _ lm ((2 * (m : Int)) + 1) (m : Int) ((2 * m) + 1) m _ HOm.has (by omega) (by omega) (by omega) (by first | omega | (simp only [Bool.or_eq_true, Bool.or_eq_false_iff, Bool.and_eq_true, Bool.and_eq_false_iff, decide_eq_true_eq, decide_eq_false_iff_not, beq_iff_eq, bne_iff_ne, beq_eq_false_iff_ne, bne_eq_false_iff_eq, Bool.not_eq_true', Bool.not_eq_false', Bool.not_eq_true, Bool.not_eq_false, Int.not_lt, Int.not_le, Nat.not_lt, Nat.not_le, ne_eq, Classical.not_not] at hc; omega)) (by first | omega | (simp only [Bool.or_eq_true, Bool.or_eq_false_iff, Bool.and_eq_true, Bool.and_eq_false_iff, decide_eq_true_eq, decide_eq_false_iff_not, beq_iff_eq, bne_iff_ne, beq_eq_false_iff_ne, bne_eq_false_iff_eq, Bool.not_eq_true', Bool.not_eq_false', Bool.not_eq_true, Bool.not_eq_false, Int.not_lt, Int.not_le, Nat.not_lt, Nat.not_le, ne_eq, Classical.not_not] at hc; omega))).mono ?_)
   rintro e w_21 ⟨rfl, x_22⟩
   refine ⟨_, rfl, ?_⟩
   have q_23 := x_22.size
   have z_21 := z_9.trans (Mod.of_ext x_22)
   refine vl (nt rfl) rfl <| nl <| nT <| ?_
   refine cb rfl (fun h_24 => ?_) (fun h_24 => ?_)
   ·have hex := Hp.dn_exit2 (key := Nod.all) hc1 hlow h_24
    rw [hex] at hup
    refine xt <| xT <| xN rfl <| xK <| xB <| nT <| sq <| rg <| vl (mv rfl) rfl <| vl (mv rfl) rfl <| vl (bgt rfl rfl) rfl <| vl (as_ rfl) rfl <| nl <| nT <| rt <| tR (.tmp rfl .nil) <| ?_
    skip
    have HOm := HOm.later x_22
    have HB := HB.later x_22
    exact ⟨⟨_, rfl⟩, HB, by rw [← hup]; exact HOm, z_21⟩
   ·have hnx := Hp.dn_more (key := Nod.all) hc1 hlow h_24
    refine sk <| nT <| sq <| rg <| vl (mv rfl) rfl <| vl (mv rfl) rfl <| vl (mv rfl) rfl <| ?_
    have HB := HB.later x_22
    have HOm := HOm.later x_22
    refine iv Pq_en__path_open__Swap rfl rfl (meth_val (e := 227) (by kernel_rfl) (HB.one Pq_ag_path_open rfl)) rfl ((xP_swap _ _ _ _ lm (m : Int) ((2 * (m : Int)) + 1) m ((2 * m) + 1) _ HOm hokm (by omega) (by omega) (by omega) (by omega) (by omega)).mono ?_)
    rintro e w_27 ⟨rfl, O_25, m_26⟩
    refine ⟨_, rfl, ?_⟩
    have q_28 := m_26.size
    have z_27 := z_21.md m_26 (fun q hq => .inl hq)
    have hokO_25 : ∀ y ∈ Hp.swp lm m ((2 * m) + 1), y.ok := fun y hy => hokm y ((Hp.swp_perm (by omega) (by omega)).subset hy)
    have hlenO_25 : (Hp.swp lm m ((2 * m) + 1)).length = n := by rw [Hp.swp_len]; omega
    refine nl <| nT <| rg <| vl (mv rfl) rfl <| vl (as_ rfl) rfl <| nl <| nB <| ?_
    have HB := HB.mod m_26 (fun hq => d_1 _ hq rfl)
    exact nI _ _ ⟨Hp.swp lm m ((2 * m) + 1), 2 * m + 1, rfl, rfl, z_27, HB, O_25, by omega, hlenO_25, hokO_25, hnx.symm.trans hup, (fun q hq hb => by (exact d_1 q hq hb))⟩ (by omega) (.cons rfl (.cons rfl (.cons rfl (.cons rfl (.cons (loI rfl (by first | omega | rfl | (simp <;> omega))) .nil)))))
set_option maxRecDepth 100000 in
set_option maxHeartbeats 400000 in
theorem xP_qpush (b : Nat) (A : Option Addr) (c Z : Nat) (l : List Nod) (v0 v1 v2 v3 v4 v5 : Value) (x : Nod) (w : World) (HB : Blk w b [v0, v1, v2, v3, v4, v5, .slice A l.length c] 229 (0, 0)) (HO : Nod.rep.SOwn 250 32 w Z (Rep.blkOf A) A c (l)) (hok : ∀ y ∈ l, y.ok) (hd : ∀ q ∈ Rep.blkOf A, q = b → False) (hx : x.ok) (hbig : l.length ≤ 1000000) (hZ : Z ≤ w.heap.size) :
  Calls Try.prog 203 #[.pointer (some ⟨b, 6, none⟩), .iface 250 (.agg #[.int .i64 x.cell.x, .int .i64 x.cell.y, .int .i64 x.far, .int .i64 x.all])] w (fun e w' => ∃ A' c', e = .returned (.tuple #[]) ∧ Blk w' b [v0, v1, v2, v3, v4, v5, .slice A' (l ++ [x]).length c'] 229 (0, 0) ∧ Nod.rep.SOwn 250 32 w' Z (Rep.blkOf A') A' c' (l ++ [x]) ∧ (∀ q ∈ Rep.blkOf A', q ∈ Rep.blkOf A ∨ w.heap.size ≤ q) ∧ Mod (b :: Rep.blkOf A) w w') := by
 have uO := fun q hq => (HO.lt q hq).2
 have qB := HB.lt
 have hn63 := HO.has.2.1
 have hn64 := HO.has.len_le
 have hn65 := HO.has.1
 refine calls_W (n := 13) Try.func203 rfl rfl rfl ?_
 refine rd [(3, 0), (6, 2), (7, 3), (9, 3)] [0, 1, 2, 3, 4, 5, 6, 7, 8, 9] (by kernel_rfl) (by kernel_rfl) ?_
 refine fw rfl rfl (fun _ => mv rfl) rfl <| fw rfl rfl (fun _ => mv rfl) rfl <| fw rfl rfl (fun _ => nc rfl) rfl <| fq rfl rfl (fun _ x => ld rfl ((HB.later x).one Pq_ag_path_open rfl)) rfl <| fw rfl rfl (fun _ => mv rfl) rfl <| fw rfl rfl (fun _ => tyA (fun w => by kernel_rfl) rfl) rfl <| fx rfl rfl rfl fun w_1 x_2 Q hK => bs (e := 250) (cs := [.int .i64 x.cell.x, .int .i64 x.cell.y, .int .i64 x.far, .int .i64 x.all]) rfl (fun _ => by kernel_rfl) rfl fun w_3 b_4 x_5 l_6 B_7 => hK _ _ ⟨Ext.tr x_2 x_5, ?_⟩
 have q_8 := x_2.size
 have z_1 := (Mod.rf (b :: Rep.blkOf A) w).trans (Mod.of_ext x_2)
 have q_9 := x_5.size
 have z_3 := z_1.trans (Mod.of_ext x_5)
 have q_10 := B_7.lt
 have HO := HO.later (Ext.tr x_2 x_5)
 refine fb rfl rfl rfl fun w_11 x_12 Q hK => ap Pq_el_path_open Rep.flat_bare (HO.later x_12) ((Blk.has1 (R := Nod.rep) (by_ := 32) (q := x) B_7 ⟨rfl, hx⟩ (by decide)).keep x_12) rfl rfl (by simp only [List.length_cons, List.length_nil]; omega) (by simp only [List.length_cons, List.length_nil]; omega) (by have := x_12.size; omega) rfl fun w_13 A_14 c_15 m_16 O_17 g_18 n_19 => hK _ _ ?_
 have q_20 := x_12.size
 have z_11 := z_3.trans (Mod.of_ext x_12)
 have q_21 := m_16.size
 have z_13 := z_11.md m_16 (fun q hq => .inl (List.mem_cons_of_mem _ hq))
 have u_22 := fun q hq => (O_17.lt q hq).2
 have q_23 := m_16.size
 refine fw rfl rfl (fun _ => nc rfl) rfl <| ?_
 have HB := HB.later (Ext.tr x_2 (Ext.tr x_5 x_12))
 have HB := HB.mod m_16 (fun hq => hd _ hq rfl)
 refine fb rfl rfl rfl fun w_24 x_25 Q hK => st (new := [v0, v1, v2, v3, v4, v5, .slice A_14 ((l ++ [x]).length) c_15]) rfl rfl (HB.later x_25) rfl Pq_sz_path_open rfl rfl rfl fun w_26 m_27 HB => hK _ _ ?_
 have q_29 := x_25.size
 have z_24 := z_13.trans (Mod.of_ext x_25)
 have q_30 := m_27.size
 have z_26 := z_24.md m_27 (fun q hq => .inl (by rw [List.mem_singleton.1 hq]; exact List.mem_cons_self))
 have q_28 := m_27.size
 refine fn fun w_31 x_32 => ?_
 have q_33 := x_32.size
 have z_31 := z_26.trans (Mod.of_ext x_32)
 refine ne <| tR .nil <| ?_
 have O_17 := O_17.later x_25
 have O_17 := O_17.mod m_27 (fun q hq h => by have hb := List.mem_singleton.1 h; exfalso; (exact Or.elim (g_18 q hq) (fun k_34 => by (exact hd q k_34 hb)) (fun k_34 => by omega)))
 have O_17 := O_17.later x_32
 have HB := HB.later x_32
 exact ⟨A_14, c_15, rfl, HB, O_17, (fun q hq => (g_18 q hq).imp id fun h => by omega), z_31⟩
set_option maxRecDepth 100000 in
set_option maxHeartbeats 400000 in
theorem xP_qpop (b : Nat) (A : Option Addr) (n c Z : Nat) (l : List Nod) (v0 v1 v2 v3 v4 v5 : Value) (w : World) (HB : Blk w b [v0, v1, v2, v3, v4, v5, .slice A n c] 229 (0, 0)) (HO : Nod.rep.SOwn 250 32 w Z (Rep.blkOf A) A c (l)) (hok : ∀ y ∈ l, y.ok) (hn : l.length = n) (hd : ∀ q ∈ Rep.blkOf A, q = b → False) (h0 : 0 < n) :
  Calls Try.prog 202 #[.pointer (some ⟨b, 6, none⟩)] w (fun e w' => e = .returned (.iface 250 (.agg ((l.getD (n - 1) default).cells).toArray)) ∧ Blk w' b [v0, v1, v2, v3, v4, v5, .slice A (n - 1) c] 229 (0, 0) ∧ Nod.rep.SOwn 250 32 w' Z (Rep.blkOf A) A c (l.take (n - 1)) ∧ Mod (b :: Rep.blkOf A) w w') := by
 have uO := fun q hq => (HO.lt q hq).2
 have qB := HB.lt
 have hn63 := HO.has.2.1
 have hn64 := HO.has.len_le
 have hn65 := HO.has.1
 refine calls_W (n := 23) Try.func202 rfl rfl rfl ?_
 refine sq <| rg <| vl (as_ rfl) rfl <| nl <| nT <| sq <| rg <| vl (mv rfl) rfl <| vl (nc rfl) rfl <| vl (ld rfl (HB.one Pq_ag_path_open rfl)) rfl <| vl (as_ rfl) rfl <| nl <| nT <| sq <| rg <| vl (mv rfl) rfl <| vl (mv rfl) rfl <| vl (ln Try.underlying227 rfl) rfl <| vl (bsu rfl rfl (inI (by omega))) rfl <| vl (iA (((n : Int) - 1).toNat) Try.underlying227 Pq_sz_path_node rfl rfl (HO.has.adr (Nat.zero_lt_of_lt (show ((n : Int) - 1).toNat < _ from (by omega)))) (by omega) (by omega)) rfl <| vl (ld rfl (Rep.SHas.elt hcNo (HO.has.adh (Nat.zero_lt_of_lt (show ((n : Int) - 1).toNat < _ from (by omega)))) (get_d (l := l) (u := default) (by omega)) Pq_ag_path_node Pq_sz_path_node)) rfl <| al rfl Pq_zv_path_node rfl rfl fun w_1 b_2 x_3 l_4 B_5 => ?_
 have q_6 := x_3.size
 have z_1 := (Mod.rf (b :: Rep.blkOf A) w).trans (Mod.of_ext x_3)
 have q_7 := B_5.lt
 refine st (new := [.int .i64 ((l.getD (((n : Int) - 1).toNat) default).cell.x), .int .i64 ((l.getD (((n : Int) - 1).toNat) default).cell.y), .int .i64 ((l.getD (((n : Int) - 1).toNat) default).far), .int .i64 ((l.getD (((n : Int) - 1).toNat) default).all)]) rfl rfl B_5 rfl Pq_sz_path_node rfl rfl rfl fun w_8 m_9 B_5 => ?_
 have q_11 := m_9.size
 have z_8 := z_1.md m_9 (fun q hq => .inr (by have := List.mem_singleton.1 hq; omega))
 have q_10 := m_9.size
 refine nl <| nT <| sq <| rg <| vl (mv rfl) rfl <| vl (mv rfl) rfl <| vl (mv rfl) rfl <| vl (ln Try.underlying227 rfl) rfl <| vl (bsu rfl rfl (inI (by omega))) rfl <| vl (sP (n - 1) (n - 1) Try.underlying227 Pq_sz_path_node rfl rfl (by omega) (by omega) rfl) rfl <| vl (nc rfl) rfl <| ?_
 have HB := HB.later x_3
 have HB := HB.mod m_9 (by simp only [List.mem_singleton]; omega)
 refine st (new := [v0, v1, v2, v3, v4, v5, .slice A (n - 1) c]) rfl rfl HB rfl Pq_sz_path_open rfl rfl rfl fun w_12 m_13 HB => ?_
 have q_15 := m_13.size
 have z_12 := z_8.md m_13 (fun q hq => .inl (by rw [List.mem_singleton.1 hq]; exact List.mem_cons_self))
 have q_14 := m_13.size
 refine nl <| nT <| sq <| rg <| ?_
 have B_5 := B_5.mod m_13 (by simp only [List.mem_singleton]; omega)
 refine vl (ld rfl (B_5.all Pq_ag_path_node Pq_sz_path_node)) rfl <| vl (mkI (fun w => by kernel_rfl) rfl) rfl <| vl (as_ rfl) rfl <| nl <| nT <| rt <| tR (.tmp rfl .nil) <| ?_
 have HO := HO.later x_3
 have HO := HO.mod m_9 (fun q hq h => by have hb := List.mem_singleton.1 h; exfalso; (have := uO q hq; omega))
 have HO := HO.mod m_13 (fun q hq h => by have hb := List.mem_singleton.1 h; exfalso; (exact hd q hq hb))
 exact ⟨by rw [show ((n : Int) - 1).toNat = n - 1 by omega]; rfl, HB, Rep.SOwn.cut HO Rep.flat_bare (n - 1) (by omega), z_12⟩
set_option maxRecDepth 100000 in
set_option maxHeartbeats 400000 in
theorem xP_push (b : Nat) (A : Option Addr) (c Z : Nat) (l : List Nod) (v0 v1 v2 v3 v4 v5 : Value) (x : Nod) (w : World) (HB : Blk w b [v0, v1, v2, v3, v4, v5, .slice A l.length c] 229 (0, 0)) (HO : Nod.rep.SOwn 250 32 w Z (Rep.blkOf A) A c (l)) (hok : ∀ y ∈ l, y.ok) (hd : ∀ q ∈ Rep.blkOf A, q = b → False) (hx : x.ok) (hbig : l.length ≤ 1000000) (hZ : Z ≤ w.heap.size) :
  Calls Try.prog 177 #[.iface 248 (.pointer (some ⟨b, 6, none⟩)), .iface 250 (.agg #[.int .i64 x.cell.x, .int .i64 x.cell.y, .int .i64 x.far, .int .i64 x.all])] w (fun e w' => ∃ A' c', e = .returned (.tuple #[]) ∧ Blk w' b [v0, v1, v2, v3, v4, v5, .slice A' (Hp.push Nod.all l x).length c'] 229 (0, 0) ∧ Nod.rep.SOwn 250 32 w' Z (Rep.blkOf A') A' c' (Hp.push Nod.all l x) ∧ (∀ q ∈ Rep.blkOf A', q ∈ Rep.blkOf A ∨ w.heap.size ≤ q) ∧ Mod (b :: Rep.blkOf A) w w') := by
 have uO := fun q hq => (HO.lt q hq).2
 have qB := HB.lt
 have hn63 := HO.has.2.1
 have hn64 := HO.has.len_le
 have hn65 := HO.has.1
 refine calls_W (n := 12) Try.func177 rfl rfl rfl ?_
 refine sq <| rg <| vl (mv rfl) rfl <| vl (mv rfl) rfl <| iv Pq_en__P_path_open__Push rfl rfl (by unfold Meth; kernel_rfl) rfl ((xP_qpush b A c Z l v0 v1 v2 v3 v4 v5 x _ HB HO hok hd hx (by omega) hZ).mono ?_)
 rintro e w_2 ⟨A1, c1, rfl, HB1, HO1, hg1, m_1⟩
 refine ⟨_, rfl, ?_⟩
 have q_3 := m_1.size
 have z_2 := (Mod.rf (b :: Rep.blkOf A) w).md m_1 (fun q hq => .inl hq)
 have hll : (l ++ [x]).length = l.length + 1 := by rw [List.length_append]; rfl
 have uO1 := fun q hq => (HO1.lt q hq).2
 have qB1 := HB1.lt
 have hd1 : ∀ q ∈ Rep.blkOf A1, q = b → False := fun q hq e => (hg1 q hq).elim (fun h => hd q h e) (fun h => by omega)
 have hok1 : ∀ y ∈ l ++ [x], y.ok := fun y hy => (List.mem_append.1 hy).elim (hok y) fun h => by rw [List.mem_singleton.1 h]; exact hx
 refine nl <| nT <| rg <| vl (mv rfl) rfl <| vl (mv rfl) rfl <| iv Pq_en__path_open__Len rfl rfl (meth_val (e := 227) (by kernel_rfl) (HB1.one Pq_ag_path_open rfl)) rfl ((xP_len _ ((l ++ [x]).length) _ _).mono ?_)
 rintro e w_4 ⟨rfl, x_5⟩
 refine ⟨_, rfl, ?_⟩
 have q_6 := x_5.size
 have z_4 := z_2.trans (Mod.of_ext x_5)
 refine vl (bsu rfl rfl (inI (by omega))) rfl <| ?_
 have HO1 := HO1.later x_5
 have HB1 := HB1.later x_5
 refine ca Pq_en_container_heap_up rfl rfl (((show Calls _ _ #[_, .int .i64 (((l ++ [x]).length : Int) - 1)] _ _ from (by rw [show ((l ++ [x]).length : Int) - 1 = (l.length : Int) by rw [hll]; omega]; exact xP_up b A1 (l ++ [x]).length c1 Z (l ++ [x]) v0 v1 v2 v3 v4 v5 l.length _ HB1 HO1 hok1 rfl hd1 (by omega)))).mono ?_)
 rintro e w_8 ⟨rfl, HB2, HO2, m_7⟩
 refine ⟨_, rfl, ?_⟩
 have q_9 := m_7.size
 have z_8 := z_4.md m_7 (fun q hq => (hg1 q hq).imp (List.mem_cons_of_mem _) fun h => by omega)
 refine nl <| ne <| tR .nil <| ?_
 exact ⟨A1, c1, rfl, by rw [show (Hp.push Nod.all l x).length = (l ++ [x]).length by rw [Hp.push_len, hll]]; exact HB2, HO2, hg1, z_8⟩
set_option maxRecDepth 100000 in
set_option maxHeartbeats 400000 in
theorem xP_pop (b : Nat) (A : Option Addr) (n c Z : Nat) (l : List Nod) (v0 v1 v2 v3 v4 v5 : Value) (w : World) (HB : Blk w b [v0, v1, v2, v3, v4, v5, .slice A n c] 229 (0, 0)) (HO : Nod.rep.SOwn 250 32 w Z (Rep.blkOf A) A c (l)) (hok : ∀ y ∈ l, y.ok) (hn : l.length = n) (hd : ∀ q ∈ Rep.blkOf A, q = b → False) (h0 : 0 < n) (hbig : n ≤ 1000000) :
  Calls Try.prog 179 #[.iface 248 (.pointer (some ⟨b, 6, none⟩))] w (fun e w' => e = .returned (.iface 250 (.agg (l.getD 0 default).cells.toArray)) ∧ Blk w' b [v0, v1, v2, v3, v4, v5, .slice A (Hp.popL Nod.all l).length c] 229 (0, 0) ∧ Nod.rep.SOwn 250 32 w' Z (Rep.blkOf A) A c (Hp.popL Nod.all l) ∧ Mod (b :: Rep.blkOf A) w w') := by
 have uO := fun q hq => (HO.lt q hq).2
 have qB := HB.lt
 have hn63 := HO.has.2.1
 have hn64 := HO.has.len_le
 have hn65 := HO.has.1
 refine calls_W (n := 15) Try.func179 rfl rfl rfl ?_
 refine sq <| rg <| vl (as_ rfl) rfl <| nl <| nT <| sq <| rg <| vl (mv rfl) rfl <| iv Pq_en__path_open__Len rfl rfl (meth_val (e := 227) (by kernel_rfl) (HB.one Pq_ag_path_open rfl)) rfl ((xP_len _ n _ _).mono ?_)
 rintro e w_1 ⟨rfl, x_2⟩
 refine ⟨_, rfl, ?_⟩
 have q_3 := x_2.size
 have z_1 := (Mod.rf (b :: Rep.blkOf A) w).trans (Mod.of_ext x_2)
 refine vl (bsu rfl rfl (inI (by omega))) rfl <| vl (as_ rfl) rfl <| nl <| nT <| sq <| rg <| vl (mv rfl) rfl <| vl (mv rfl) rfl <| ?_
 have HB := HB.later x_2
 have HO := HO.later x_2
 refine iv Pq_en__path_open__Swap rfl rfl (meth_val (e := 227) (by kernel_rfl) (HB.one Pq_ag_path_open rfl)) rfl ((xP_swap _ _ _ _ l 0 ((n : Int) - 1) 0 (n - 1) _ HO hok (by omega) (by omega) (by omega) (by omega) (by omega)).mono ?_)
 rintro e w_6 ⟨rfl, O_4, m_5⟩
 refine ⟨_, rfl, ?_⟩
 have q_7 := m_5.size
 have z_6 := z_1.md m_5 (fun q hq => .inl (List.mem_cons_of_mem _ hq))
 have hokO_4 : ∀ y ∈ Hp.swp l 0 (n - 1), y.ok := fun y hy => hok y ((Hp.swp_perm (by omega) (by omega)).subset hy)
 have hlenO_4 : (Hp.swp l 0 (n - 1)).length = n := by rw [Hp.swp_len]; omega
 refine nl <| nT <| sq <| rg <| vl (mv rfl) rfl <| vl (mv rfl) rfl <| ?_
 have HB := HB.mod m_5 (fun hq => hd _ hq rfl)
 refine ca Pq_en_container_heap_down rfl rfl (((show Calls _ _ #[_, .int .i64 0, .int .i64 ((n : Int) - 1)] _ _ from (by rw [show (n : Int) - 1 = ((n - 1 : Nat) : Int) by omega]; exact xP_down b A n c Z (Hp.swp l 0 (n - 1)) v0 v1 v2 v3 v4 v5 0 (n - 1) _ HB O_4 hokO_4 (by omega) hd (by omega) (by omega) hbig))).mono ?_)
 rintro e w_10 ⟨⟨vb_, rfl⟩, HB1, O_8, m_9⟩
 refine ⟨_, rfl, ?_⟩
 have q_11 := m_9.size
 have z_10 := z_6.md m_9 (fun q hq => .inl (List.mem_cons_of_mem _ hq))
 have hokO_8 : ∀ y ∈ Hp.downF Nod.all (n - 1) (Hp.swp l 0 (n - 1)) 0, y.ok := fun y hy => hokO_4 y ((Hp.downF_perm _ _ _ _ (Nat.le_refl _) (by omega) (by omega)).subset hy)
 have hlenO_8 : (Hp.downF Nod.all (n - 1) (Hp.swp l 0 (n - 1)) 0).length = n := by rw [Hp.downF_len _ _ _ _ (Nat.le_refl _)]; omega
 have uO1 := fun q hq => (O_8.lt q hq).2
 refine nl <| nT <| sq <| rg <| vl (mv rfl) rfl <| iv Pq_en__P_path_open__Pop rfl rfl (by unfold Meth; kernel_rfl) rfl ((xP_qpop b A n c Z (Hp.downF Nod.all (n - 1) (Hp.swp l 0 (n - 1)) 0) v0 v1 v2 v3 v4 v5 _ HB1 O_8 hokO_8 (by omega) hd h0).mono ?_)
 rintro e w_13 ⟨rfl, HB9, HO9, m_12⟩
 refine ⟨_, rfl, ?_⟩
 have q_14 := m_12.size
 have z_13 := z_10.md m_12 (fun q hq => .inl hq)
 refine vl (as_ rfl) rfl <| nl <| nT <| rt <| tR (.tmp rfl .nil) <| ?_
 subst hn; exact ⟨by rw [← Hp.popD_last (key := Nod.all) h0]; rfl, by rw [Hp.popL_len]; exact HB9, HO9, z_13⟩
end Go.Proofs.Ytokehopkfnipmaa
set_option linter.unusedVariables false
set_option linter.unusedSimpArgs false
namespace Go.Proofs.Ytokehopkfnipmaa
open Go.RowKit

theorem ret_bool {a b : Bool} (h : a = b) : Ending.returned (.bool a) = .returned (.bool b) := by rw [h]
theorem below_alloc0 (w : World) (o : Obj) : Below w.heap.size w (w.alloc o) := (Below.refl _ w).alloc (Nat.le_refl _) o
end Go.Proofs.Ytokehopkfnipmaa
set_option linter.unusedVariables false
set_option linter.unusedSimpArgs false
namespace Go.Proofs.Ytokehopkfnipmaa
open Go.RowKit

def Fld.badPlace (p : Int) : Bool := !Fld.placeOk p
theorem badPlace_mk {p : Int} : (p < 0 → Fld.badPlace p = true) ∧ (4 ≤ p → Fld.badPlace p = true) ∧ (0 ≤ p → p < 4 → Fld.badPlace p = false) := by
 unfold Fld.badPlace Fld.placeOk
 refine ⟨fun h => by rw [inB_not (.inl h)]; rfl, fun h => by rw [inB_not (.inr (by omega))]; rfl, fun h1 h2 => by rw [inB_mk h1 (by omega)]; rfl⟩
theorem fcheck1 (p : Int) (w : World) : Calls Try.prog 99 #[.int .i64 p] w fun e w' => e = .returned (.bool (Fld.badPlace p)) ∧ Below w.heap.size w w' := by
 obtain ⟨b1, b2, b3⟩ := badPlace_mk (p := p)
 rcases Int.lt_or_le p 0 with h | h
 ·have hb := b1 h
  have hd : decide (p < 0) = true := by simpa using h
  rw [hb]; clear b1 b2 b3 hb
  go_enter Try.func99, Try.ntmps99
  go_wp2
  go_ret
  exact ⟨rfl, Below.refl _ _⟩
 ·rcases Int.lt_or_le p 4 with h4 | h4
  ·have hb := b3 h h4
   have hd : decide (p < 0) = false := by simpa using h
   rw [hb]; clear b1 b2 b3 hb
   go_enter Try.func99, Try.ntmps99
   go_wp2
   go_ret
   exact ⟨ret_bool (by simp <;> omega), Below.refl _ _⟩
  ·have hb := b2 h4
   have hd : decide (p < 0) = false := by simpa using h
   rw [hb]; clear b1 b2 b3 hb
   go_enter Try.func99, Try.ntmps99
   go_wp2
   go_ret
   exact ⟨ret_bool (by simp <;> omega), Below.refl _ _⟩
set_option maxRecDepth 100000 in
set_option maxHeartbeats 1000000 in
theorem idx_place  (A : Option Addr) (c : Nat) (l : List Int) (w : World) (hl : repI.SHas 8 w A c l) :
  Calls Try.prog 140 #[.slice A l.length c, .func (.func 99) #[] #[]] w fun e w' => e = .returned (.int .i64 (idxI (Fld.badPlace) l)) ∧ Below w.heap.size w w' := by
 obtain ⟨n, hn⟩ : ∃ n, l.length = n := ⟨_, rfl⟩
 have hle : n ≤ 9223372036854775807 := by have := hl.1; have := hl.2.1; omega
 rw [hn]
 have HL := Lib.hid hl
 have HN := Lib.hid hn
 clear hl hn
 go_enter Try.func140, Try.ntmps140
 go_wp2_with fail
 go_loopw [5, 8] (fun _ iv wr => ∃ k : Nat, k ≤ n ∧ iv = .int .i64 (k : Int) ∧ Hid (∀ j (hj : j < k) (hj2 : j < l.length), (Fld.badPlace) l[j] = false) ∧ Below w.heap.size w wr) (fun _ iv _ => n - (intOf iv).toNat)
 case atStart => exact ⟨0, Nat.zero_le _, rfl, (fun j hj => by omega), Below.refl _ _⟩
 case round =>
  obtain ⟨k, hk, rfl, HK, hb⟩ := hrel
  by_cases hlt : k < n
  ·have hkl : k < l.length := by rw [HN.out]; exact hlt
   obtain ⟨b, o, rfl, hcell⟩ := repI_at (HL.out.keep hb) (by omega)
   obtain ⟨x, hxe⟩ : ∃ x, l[k]'hkl = x := ⟨_, rfl⟩
   have q0 := hcell k x (by rw [List.getElem?_eq_getElem hkl, hxe])
   have HXE := Lib.hid hxe

   have hc := fcheck1 x wr
   clear hcell hxe
   cases hbad : (Fld.badPlace) x with
   | true =>
    have hres : idxI (Fld.badPlace) l = (k : Int) := idxI_some hkl (by rw [HXE.out]; exact hbad) fun j hj => HK.out j hj (by omega)
    rw [hbad] at hc
    have HRES := Lib.hid hres
    clear hres hbad
    go_wp2_with (go_at_call 99; refine hc.mono ?_; rintro e w' ⟨rfl, hb2⟩)
    go_ret
    exact ⟨by rw [HRES.out]; rfl, hb.trans (hb2.mono hb.size)⟩
   | false =>
    rw [hbad] at hc
    have HK2 : Hid (∀ j (hj : j < k + 1) (hj2 : j < l.length), (Fld.badPlace) l[j] = false) := by
     intro j hj hj2
     by_cases h : j < k
     ·exact HK.out j h hj2
     ·obtain rfl : j = k := by omega
      rw [HXE.out]; exact hbad
    clear hbad
    go_wp2_with (go_at_call 99; refine hc.mono ?_; rintro e w' ⟨rfl, hb2⟩)
    go_roundw
    case rel => exact ⟨k + 1, by omega, by go_num, HK2, hb.trans (hb2.mono hb.size)⟩
    case measure => simp [intOf]; omega
  ·have hres : idxI (Fld.badPlace) l = -1 := idxI_none fun j hj => HK.out j (by have := HN.out; omega) hj
   have HRES := Lib.hid hres
   clear hres
   go_wp2_with fail
   go_ret
   exact ⟨by rw [HRES.out]; rfl, hb⟩
theorem has_place  (A : Option Addr) (c : Nat) (l : List Int) (w : World) (hl : repI.SHas 8 w A c l) :
  Calls Try.prog 98 #[.slice A l.length c, .func (.func 99) #[] #[]] w fun e w' => e = .returned (.bool (l.any (Fld.badPlace))) ∧ Below w.heap.size w w' := by
 have hc := idx_place  A c l w hl 
 rw [← idxI_any]
 generalize idxI (Fld.badPlace) l = r at *
 generalize l.length = n at *
 clear hl 
 go_enter Try.func98, Try.ntmps98
 go_wp2_with (go_at_call 140; refine hc.mono ?_; rintro e w' ⟨rfl, hb2⟩)
 go_ret
 exact ⟨rfl, hb2⟩
theorem within_any (n lo hi : Int) (w : World) : Calls Try.prog 102 #[.int .i64 n, .int .i64 lo, .int .i64 hi] w fun e w' => e = .returned (.bool (inB n lo hi)) ∧ w = w' := by
 rcases Int.lt_or_le n lo with h | h
 ·rw [inB_not (.inl h)]
  go_enter Try.func102, Try.ntmps102
  go_wp2
  go_ret
  exact ⟨rfl, rfl⟩
 ·rcases Int.lt_or_le hi n with h4 | h4
  ·rw [inB_not (.inr h4)]
   go_enter Try.func102, Try.ntmps102
   go_wp2
   go_ret
   exact ⟨ret_bool (by simp <;> omega), rfl⟩
  ·rw [inB_mk h h4]
   go_enter Try.func102, Try.ntmps102
   go_wp2
   go_ret
   exact ⟨ret_bool (by simp <;> omega), rfl⟩
theorem side_any (n : Int) (w : World) : Calls Try.prog 97 #[.int .i64 n] w fun e w' => e = .returned (.bool (inB n 1 40)) ∧ w = w' := by
 rcases Int.lt_or_le n 1 with h | h
 ·rw [inB_not (.inl h)]
  go_enter Try.func97, Try.ntmps97
  go_wp2
  go_ret
  exact ⟨rfl, rfl⟩
 ·rcases Int.lt_or_le 40 n with h4 | h4
  ·rw [inB_not (.inr h4)]
   go_enter Try.func97, Try.ntmps97
   go_wp2
   go_ret
   exact ⟨ret_bool (by simp <;> omega), rfl⟩
  ·rw [inB_mk h h4]
   go_enter Try.func97, Try.ntmps97
   go_wp2
   go_ret
   exact ⟨ret_bool (by simp <;> omega), rfl⟩
end Go.Proofs.Ytokehopkfnipmaa
set_option linter.unusedVariables false
set_option linter.unusedSimpArgs false
namespace Go.Proofs.Ytokehopkfnipmaa
open Go.RowKit

theorem Fld.chk_none {f : Fld} (h1 : inB f.wide 1 40 = true) (h2 : inB f.high 1 40 = true) (h3 : ¬ (f.places.length : Int) = f.wide * f.high) : f.chk = 4 := by
 unfold Fld.chk
 rw [h1, h2, decide_eq_false h3]; rfl
theorem Fld.chk_any {f : Fld} (h1 : inB f.wide 1 40 = true) (h2 : inB f.high 1 40 = true) (h3 : (f.places.length : Int) = f.wide * f.high) : f.chk = if f.places.any Fld.badPlace then 4 else 0 := by
 unfold Fld.chk
 rw [h1, h2, decide_eq_true h3]
 have : f.places.all Fld.placeOk = !f.places.any Fld.badPlace := by
  rw [List.all_eq_not_any_not]; rfl
 rw [this]
 cases f.places.any Fld.badPlace <;> rfl
set_option maxRecDepth 100000 in
set_option maxHeartbeats 1000000 in
theorem fldCheck (f : Fld) (A : Option Addr) (c : Nat) (w : World) (hP : repI.SHas 8 w A c f.places) :
  Calls Try.prog 64 #[.agg #[.int .i64 f.wide, .int .i64 f.high, .slice A f.places.length c]] w fun e w' => e = .returned (.int .i64 f.chk) ∧ Below w.heap.size w w' := by
 have hb := below_alloc0 w (.cells #[.int .i64 f.wide, .int .i64 f.high, .slice A f.places.length c] 54)
 have hs1 := side_any f.wide
 have hs2 := side_any f.high
 have hle : f.places.length ≤ 9223372036854775807 := by have := hP.1; have := hP.2.1; omega
 cases h1 : inB f.wide 1 40 with
 | false =>
  rw [h1] at hs1
  rw [Fld.chk_one (by rw [h1]; rfl)]
  clear h1 hs2 hP
  go_enter Try.func64, Try.ntmps64
  go_wp2_with (go_at_call 97; refine (hs1 _).mono ?_; rintro e w' ⟨rfl, rfl⟩)
  go_ret
  exact ⟨rfl, hb⟩
 | true =>
  rw [h1] at hs1
  cases h2 : inB f.high 1 40 with
  | false =>
   rw [h2] at hs2
   rw [Fld.chk_one (by rw [h1, h2]; rfl)]
   clear h1 h2 hP
   go_enter Try.func64, Try.ntmps64
   go_wp2_with fail
   refine (hs1 _).mono ?_; rintro e w' ⟨rfl, rfl⟩
   go_wp2_with fail
   refine (hs2 _).mono ?_; rintro e w' ⟨rfl, rfl⟩
   go_wp2_with fail
   go_ret
   exact ⟨rfl, hb⟩
  | true =>
   rw [h2] at hs2
   have hw := inB_true h1
   have hh := inB_true h2
   have hm0 : 0 ≤ f.wide * f.high := Int.mul_nonneg (by omega) (by omega)
   have hm1 : f.wide * f.high ≤ 40 * 40 := Int.mul_le_mul hw.2 hh.2 (by omega) (by omega)
   by_cases h3 : (f.places.length : Int) = f.wide * f.high
   ·have hc := has_place A c f.places _ (hP.keep hb)
    have hd : ((f.places.length : Int) == f.wide * f.high) = true := by simpa using h3
    have hd2 : ((f.places.length : Int) != f.wide * f.high) = false := by simpa using h3
    rw [Fld.chk_any h1 h2 h3]
    clear h1 h2 h3 hP
    generalize f.places.any Fld.badPlace = r at *
    generalize f.places.length = n at *
    cases r with
    | true =>
     go_enter Try.func64, Try.ntmps64
     go_wp2_with fail
     refine (hs1 _).mono ?_; rintro e w' ⟨rfl, rfl⟩
     go_wp2_with fail
     refine (hs2 _).mono ?_; rintro e w' ⟨rfl, rfl⟩
     go_wp2_with fail
     refine hc.mono ?_; rintro e w' ⟨rfl, hb2⟩
     go_wp2_with fail
     go_ret
     exact ⟨rfl, hb.trans (hb2.mono hb.size)⟩
    | false =>
     go_enter Try.func64, Try.ntmps64
     go_wp2_with fail
     refine (hs1 _).mono ?_; rintro e w' ⟨rfl, rfl⟩
     go_wp2_with fail
     refine (hs2 _).mono ?_; rintro e w' ⟨rfl, rfl⟩
     go_wp2_with fail
     refine hc.mono ?_; rintro e w' ⟨rfl, hb2⟩
     go_wp2_with fail
     go_ret
     exact ⟨rfl, hb.trans (hb2.mono hb.size)⟩
   ·have hd : ((f.places.length : Int) == f.wide * f.high) = false := by simpa using h3
    have hd2 : ((f.places.length : Int) != f.wide * f.high) = true := by simpa using h3
    rw [Fld.chk_none h1 h2 h3]
    clear h1 h2 h3 hP
    generalize f.places.length = n at *
    go_enter Try.func64, Try.ntmps64
    go_wp2_with fail
    refine (hs1 _).mono ?_; rintro e w' ⟨rfl, rfl⟩
    go_wp2_with fail
    refine (hs2 _).mono ?_; rintro e w' ⟨rfl, rfl⟩
    go_wp2_with fail
    go_ret
    exact ⟨rfl, hb⟩
theorem kind_1 (w : World) : Calls Try.prog 39 #[.int .i64 1] w fun e w' => e = .returned (.tuple #[.agg #[.int .i64 10, .int .i64 1, .int .i64 1, .int .i64 5], .int .i64 0]) ∧ Below w.heap.size w w' := by
 go_enter Try.func39, Try.ntmps39
 go_wp2
 refine bodyPost_ret (v := .tuple #[.agg #[.int .i64 10, .int .i64 1, .int .i64 1, .int .i64 5], .int .i64 0]) (by simp [results, Try.results39, go_sem]) rfl ⟨rfl, (Below.refl _ _).alloc (Nat.le_refl _) _⟩
theorem kind_2 (w : World) : Calls Try.prog 39 #[.int .i64 2] w fun e w' => e = .returned (.tuple #[.agg #[.int .i64 20, .int .i64 2, .int .i64 4, .int .i64 12], .int .i64 0]) ∧ Below w.heap.size w w' := by
 go_enter Try.func39, Try.ntmps39
 go_wp2
 refine bodyPost_ret (v := .tuple #[.agg #[.int .i64 20, .int .i64 2, .int .i64 4, .int .i64 12], .int .i64 0]) (by simp [results, Try.results39, go_sem]) rfl ⟨rfl, (Below.refl _ _).alloc (Nat.le_refl _) _⟩
theorem kind_no (k : Int) (w : World) (h : inB k 1 2 = false) : Calls Try.prog 39 #[.int .i64 k] w fun e w' => e = .returned (.tuple #[.agg #[.int .i64 0, .int .i64 0, .int .i64 0, .int .i64 0], .int .i64 1]) ∧ Below w.heap.size w w' := by
 have h' := inB_false h
 have h1 : (k == 1) = false := by simp; omega
 have h2 : (k == 2) = false := by simp; omega
 clear h h'
 go_enter Try.func39, Try.ntmps39
 go_wp2
 refine bodyPost_ret (v := .tuple #[.agg #[.int .i64 0, .int .i64 0, .int .i64 0, .int .i64 0], .int .i64 1]) (by simp [results, Try.results39, go_sem]) rfl ⟨rfl, (Below.refl _ _).alloc (Nat.le_refl _) _⟩
end Go.Proofs.Ytokehopkfnipmaa
set_option linter.unusedVariables false
set_option linter.unusedSimpArgs false
namespace Go.Proofs.Ytokehopkfnipmaa
open Go.RowKit

theorem ret_two {k k' : IntKind} {a b a' b' : Int} (h1 : a = a') (h2 : b = b') : Ending.returned (.tuple #[.int k a, .int k' b]) = .returned (.tuple #[.int k a', .int k' b']) := by rw [h1, h2]
def AtPost (f : Fld) (c : Cel) (w : World) (e : Ending) (w' : World) : Prop := e = .returned (.tuple #[.int .i64 (f.atV c), .int .i64 (f.atE c)]) ∧ Below w.heap.size w w'
set_option maxRecDepth 100000 in
set_option maxHeartbeats 1000000 in
theorem fldAt (f : Fld) (p : Cel) (A : Option Addr) (c : Nat) (w : World) (hP : repI.SHas 8 w A c f.places) :
  Calls Try.prog 141 #[.agg #[.int .i64 f.wide, .int .i64 f.high, .slice A f.places.length c], .agg #[.int .i64 p.x, .int .i64 p.y]] w (AtPost f p w) := by
 have hA := Blk.new w (Wd.fcells A c f) 54 (0, 0)
 have hb := below_alloc0 w (.cells (Wd.fcells A c f).toArray 54 (0, 0))
 have hB := Blk.new (w.alloc (.cells (Wd.fcells A c f).toArray 54 (0, 0))) p.cells 70 (0, 0)
 have hb1 := below_alloc0 (w.alloc (.cells (Wd.fcells A c f).toArray 54 (0, 0))) (.cells p.cells.toArray 70 (0, 0))
 have hA1 := hA.later hb1
 have hbb := hb.trans (hb1.mono hb.size)
 have hc := fldCheck f A c _ (hP.keep hbb)
 have hP1 := hP.keep hbb
 obtain ⟨w1, HW1⟩ : ∃ w1, Hid ((w.alloc (.cells (Wd.fcells A c f).toArray 54 (0, 0))).alloc (.cells p.cells.toArray 70 (0, 0)) = w1) := ⟨_, Lib.hid rfl⟩
 rw [HW1.out] at hA1 hB hc hbb hP1
 rw [World.size_alloc] at hB
 clear hA hb hb1 hP
 have hst : ∀ K : World → Prop, K w1 → K ((w.alloc (.cells #[.int .i64 f.wide, .int .i64 f.high, .slice A f.places.length c] 54)).alloc (.cells #[.int .i64 p.x, .int .i64 p.y] 70)) := fun K h => by
  have := HW1.out
  rw [← this] at h; exact h
 by_cases h0 : f.chk = 0
 ·have hfl := Fld.len_le h0
  obtain ⟨g1, g2, g3, g4, _, _⟩ := Fld.good h0
  rw [h0] at hc
  by_cases hin : 0 ≤ p.x ∧ p.x < f.wide ∧ 0 ≤ p.y ∧ p.y < f.high
  ·obtain ⟨i1, i2, i3, i4⟩ := hin
   have hIn := Fld.isIn_mk i1 i2 i3 i4
   obtain ⟨e1, e2⟩ := Fld.at_in h0 hIn
   obtain ⟨x1, x2, _⟩ := Fld.idx h0 hIn
   have y1 : 0 ≤ p.y * f.wide := Int.mul_nonneg i3 (by omega)
   have y2 : p.y * f.wide ≤ 1600 := by omega
   obtain ⟨b, o, rfl, hcell⟩ := repI_at hP1 (by omega)
   have hce := hcell (p.y * f.wide + p.x).toNat (f.place p) (by
    unfold Fld.place
    rw [List.getD_eq_getElem?_getD, List.getElem?_eq_getElem (show (p.y * f.wide + p.x).toNat < f.places.length by omega)]; rfl)
   have HCE := Lib.hid hce
   have HE := Lib.hid (And.intro e1 e2)
   have HA1 := Lib.hid hA1
   have HB := Lib.hid hB
   have d1 : decide (p.x < 0) = false := by simpa using i1
   have d2 : decide (p.y < 0) = false := by simpa using i3
   clear h0 hIn e1 e2 hcell hce hP1 hA1 hB
   go_enter Try.func141, Try.ntmps141
   go_wp2_with fail
   refine hst (fun W => Calls _ _ _ W _) ?_
   refine hc.mono ?_
   rintro e w2 ⟨rfl, hb2⟩
   obtain ⟨q0, q1, q2⟩ := Wd.fblk (HA1.out.later hb2)
   obtain ⟨r0, r1⟩ := Cel.blk (HB.out.later hb2)
   have hcell2 := cell_later hb2 HCE.out
   go_wp2_with fail
   go_ret2
   exact ⟨ret_two HE.out.2.symm HE.out.1.symm, hbb.trans (hb2.mono hbb.size)⟩
  ·have hout : p.x < 0 ∨ f.wide ≤ p.x ∨ p.y < 0 ∨ f.high ≤ p.y := by omega
   have HE := Lib.hid (Fld.at_out h0 (Fld.isIn_out hout))
   have HA1 := Lib.hid hA1
   have HB := Lib.hid hB
   clear h0 hP1 hA1 hB hin
   have HOUT := Lib.hid hout
   clear hout
   go_enter Try.func141, Try.ntmps141
   go_wp2_with fail
   refine hst (fun W => Calls _ _ _ W _) ?_
   refine hc.mono ?_
   rintro e w2 ⟨rfl, hb2⟩
   obtain ⟨q0, q1, q2⟩ := Wd.fblk (HA1.out.later hb2)
   obtain ⟨r0, r1⟩ := Cel.blk (HB.out.later hb2)
   have key : decide (p.x < 0) = true ∨ (decide (p.x < 0) = false ∧ decide (f.wide ≤ p.x) = true) ∨ (decide (p.x < 0) = false ∧ decide (f.wide ≤ p.x) = false ∧ decide (p.y < 0) = true) ∨ (decide (p.x < 0) = false ∧ decide (f.wide ≤ p.x) = false ∧ decide (p.y < 0) = false ∧ decide (f.high ≤ p.y) = true) := by
    have := HOUT.out
    by_cases k1 : p.x < 0
    ·simp [k1]
    by_cases k2 : f.wide ≤ p.x
    ·simp [k1, k2]
    by_cases k3 : p.y < 0
    ·simp [k1, k2, k3]
    ·simp [k1, k2, k3]; omega
   rcases key with h | ⟨h, h2⟩ | ⟨h, h2, h3⟩ | ⟨h, h2, h3, h4⟩
   all_goals
    go_wp2_with fail
    go_ret2
    exact ⟨ret_two HE.out.2.symm HE.out.1.symm, hbb.trans (hb2.mono hbb.size)⟩
 ·obtain ⟨e1, e2⟩ := Fld.at_bad (c := p) h0
  have HE := Lib.hid (And.intro e1 e2)
  have hne : (f.chk == 0) = false := by simpa using h0
  have hne2 : (f.chk != 0) = true := by simpa using h0
  clear e1 e2 h0 hP1 hA1 hB
  generalize f.chk = k at *
  go_enter Try.func141, Try.ntmps141
  go_wp2_with fail
  refine hst (fun W => Calls _ _ _ W _) ?_
  refine hc.mono ?_
  rintro e w2 ⟨rfl, hb2⟩
  go_wp2_with fail
  go_ret2
  exact ⟨ret_two HE.out.2.symm HE.out.1.symm, hbb.trans (hb2.mono hbb.size)⟩
set_option maxRecDepth 100000 in
set_option maxHeartbeats 1000000 in
theorem ground_any (f : Fld) (p : Cel) (A : Option Addr) (c : Nat) (w : World) (hP : repI.SHas 8 w A c f.places) (h0 : f.chk = 0) :
  Calls Try.prog 100 #[.agg #[.int .i64 f.wide, .int .i64 f.high, .slice A f.places.length c], .agg #[.int .i64 p.x, .int .i64 p.y]] w fun e w' => e = .returned (.bool (f.ground p)) ∧ Below w.heap.size w w' := by
 have hb := below_alloc0 w (.cells #[.int .i64 f.wide, .int .i64 f.high, .slice A f.places.length c] 54)
 have hb1 := below_alloc0 (w.alloc (.cells #[.int .i64 f.wide, .int .i64 f.high, .slice A f.places.length c] 54)) (.cells #[.int .i64 p.x, .int .i64 p.y] 70)
 have hbb := hb.trans (hb1.mono hb.size)
 have hc := fldAt f p A c _ (hP.keep hbb)
 unfold AtPost at hc
 clear hb hb1 hP
 cases hin : f.isIn p with
 | true =>
  obtain ⟨e1, e2⟩ := Fld.at_in h0 hin
  rw [e1, e2] at hc
  have hg : f.ground p = (f.place p != 1) := by unfold Fld.ground; rw [hin]; rfl
  rw [hg]
  clear e1 e2 hin hg h0
  generalize f.place p = v at *
  generalize f.places.length = n at *
  cases hv : v != 1 with
  | true =>
   have hv2 : (v == 1) = false := by simpa using hv
   go_enter Try.func100, Try.ntmps100
   go_wp2_with fail
   refine hc.mono ?_
   rintro e w2 ⟨rfl, hb2⟩
   go_wp2_with fail
   go_ret
   exact ⟨ret_bool (by simp), hbb.trans (hb2.mono hbb.size)⟩
  | false =>
   have hv2 : (v == 1) = true := by simpa using hv
   go_enter Try.func100, Try.ntmps100
   go_wp2_with fail
   refine hc.mono ?_
   rintro e w2 ⟨rfl, hb2⟩
   go_wp2_with fail
   go_ret
   exact ⟨ret_bool (by simp), hbb.trans (hb2.mono hbb.size)⟩
 | false =>
  obtain ⟨e1, e2⟩ := Fld.at_out h0 hin
  rw [e1, e2] at hc
  have hg : f.ground p = false := by unfold Fld.ground; rw [hin]; rfl
  rw [hg]
  clear e1 e2 hin hg h0
  generalize f.places.length = n at *
  go_enter Try.func100, Try.ntmps100
  go_wp2_with fail
  refine hc.mono ?_
  rintro e w2 ⟨rfl, hb2⟩
  go_wp2_with fail
  go_ret
  exact ⟨rfl, hbb.trans (hb2.mono hbb.size)⟩
end Go.Proofs.Ytokehopkfnipmaa
set_option linter.unusedVariables false
set_option linter.unusedSimpArgs false
namespace Go.Proofs.Ytokehopkfnipmaa
open Go.RowKit

def Cel.is (p x : Cel) : Bool := decide (x = p)
theorem Cel.is_true {p x : Cel} (h : Cel.is p x = true) : x = p := by simpa [Cel.is] using h
theorem Cel.is_false {p x : Cel} (h : Cel.is p x = false) : ((p.x == x.x) = false) ∨ ((p.x == x.x) = true ∧ (p.y == x.y) = false) := by
 have : ¬ x = p := by simpa [Cel.is] using h
 obtain ⟨a, b⟩ := p
 obtain ⟨c, d⟩ := x
 simp at this ⊢
 omega
set_option maxRecDepth 100000 in
set_option maxHeartbeats 1000000 in
theorem idx_cell (p : Cel) (A : Option Addr) (c : Nat) (l : List Cel) (w : World) (hl : Cel.rep.SHas 16 w A c l) :
  Calls Try.prog 142 #[.slice A l.length c, .agg #[.int .i64 p.x, .int .i64 p.y]] w fun e w' => e = .returned (.int .i64 (idxI (Cel.is p) l)) ∧ Below w.heap.size w w' := by
 obtain ⟨n, hn⟩ : ∃ n, l.length = n := ⟨_, rfl⟩
 have hle : n ≤ 9223372036854775807 := by have := hl.1; have := hl.2.1; omega
 rw [hn]
 have hb0 := below_alloc0 w (.cells #[.int .i64 p.x, .int .i64 p.y] 70)
 have HB := Lib.hid (Blk.new w p.cells 70 (0, 0))
 have HL := Lib.hid (hl.keep hb0)
 have HN := Lib.hid hn
 clear hl hn
 go_enter Try.func142, Try.ntmps142
 go_wp2_with fail
 obtain ⟨w0, HW0⟩ : ∃ w0, Hid (w0 = w.alloc (.cells #[.int .i64 p.x, .int .i64 p.y] 70)) := ⟨_, Lib.hid rfl⟩
 rw [← HW0.out] at hb0 ⊢
 have HB : Hid (Blk w0 w.heap.size p.cells 70 (0, 0)) := by rw [HW0.out]; exact HB
 have HL : Hid (Cel.rep.SHas 16 w0 A c l) := by rw [HW0.out]; exact HL
 go_loopw [5, 8] (fun _ iv wr => ∃ k m : Nat, k ≤ n ∧ iv = .int .i64 (k : Int) ∧ Hid (∀ j (hj : j < k) (hj2 : j < l.length), (Cel.is p) l[j] = false) ∧ Hid (wr = w0.drewN m)) (fun _ iv _ => n - (intOf iv).toNat)
 case atStart => exact ⟨0, 0, Nat.zero_le _, rfl, (fun j hj => by omega), rfl⟩
 case round =>
  obtain ⟨k, m, hk, rfl, HK, HW⟩ := hrel
  by_cases hlt : k < n
  ·have hkl : k < l.length := by rw [HN.out]; exact hlt
   have hLr : Cel.rep.SHas 16 wr A c l := by rw [HW.out]; exact HL.out.drewN m
   have hBr : Blk wr w.heap.size p.cells 70 (0, 0) := by rw [HW.out]; exact HB.out.drewN m
   have hbr : Below w.heap.size w wr := by rw [HW.out]; exact below_drewN hb0 m
   obtain ⟨b, o, rfl, hcell⟩ := Cel.at_ hLr (by omega)
   obtain ⟨x, hxe⟩ : ∃ x, l[k]'hkl = x := ⟨_, rfl⟩
   obtain ⟨q0, q1⟩ := hcell k x (by rw [List.getElem?_eq_getElem hkl, hxe])
   obtain ⟨r0, r1⟩ := Cel.blk hBr
   have HXE := Lib.hid hxe
   have hki : (k : Int) < (n : Int) := by omega
   have hk0 : (0 : Int) ≤ (k : Int) := by omega
   clear hcell hxe hLr hBr
   cases hbad : (Cel.is p) x with
   | true =>
    have hres : idxI (Cel.is p) l = (k : Int) := idxI_some hkl (by rw [HXE.out]; exact hbad) fun j hj => HK.out j hj (by omega)
    have HRES := Lib.hid hres
    have hxp := Cel.is_true hbad
    subst hxp
    clear hres hbad
    go_wp2_with fail
    go_quiet (fail)
    go_wp2_with fail
    go_ret
    exact ⟨by rw [HRES.out]; rfl, below_drewN hbr _⟩
   | false =>
    have HK2 : Hid (∀ j (hj : j < k + 1) (hj2 : j < l.length), (Cel.is p) l[j] = false) := by
     intro j hj hj2
     by_cases h : j < k
     ·exact HK.out j h hj2
     ·obtain rfl : j = k := by omega
      rw [HXE.out]; exact hbad
    have hne := Cel.is_false hbad
    clear hbad
    rcases hne with h1 | ⟨h1, h2⟩
    all_goals
     go_wp2_with fail
     go_quiet (fail)
     go_wp2_with fail
     go_roundw
     case rel => exact ⟨k + 1, _, by omega, by go_num, HK2, by show _ = _; rw [HW.out]; simp; rfl⟩
     case measure => simp [intOf]; omega
  ·have hres : idxI (Cel.is p) l = -1 := idxI_none fun j hj => HK.out j (by have := HN.out; omega) hj
   have HRES := Lib.hid hres
   have hwr := HW.out
   subst hwr
   clear hres
   go_wp2_with fail
   go_ret
   exact ⟨by rw [HRES.out]; rfl, below_drewN hb0 _⟩
theorem has_cell (p : Cel) (A : Option Addr) (c : Nat) (l : List Cel) (w : World) (hl : Cel.rep.SHas 16 w A c l) :
  Calls Try.prog 101 #[.slice A l.length c, .agg #[.int .i64 p.x, .int .i64 p.y]] w fun e w' => e = .returned (.bool (l.contains p)) ∧ Below w.heap.size w w' := by
 have hb0 := below_alloc0 w (.cells #[.int .i64 p.x, .int .i64 p.y] 70)
 have hc := idx_cell p A c l _ (hl.keep hb0)
 have hany : l.contains p = decide (0 ≤ idxI (Cel.is p) l) := by
  rw [idxI_any, List.contains_eq_any_beq]
  congr 1
  funext x
  unfold Cel.is
  by_cases h : x = p
  ·simp [h]
  ·simp [h, Ne.symm h]
 rw [hany]
 generalize idxI (Cel.is p) l = r at *
 generalize l.length = n at *
 clear hl hany
 go_enter Try.func101, Try.ntmps101
 go_wp2_with (go_at_call 142; refine hc.mono ?_; rintro e w' ⟨rfl, hb2⟩)
 go_ret
 exact ⟨rfl, hb0.trans (hb2.mono hb0.size)⟩
end Go.Proofs.Ytokehopkfnipmaa
