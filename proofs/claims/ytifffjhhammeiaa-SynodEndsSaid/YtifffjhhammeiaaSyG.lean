import Derived.Test.YtifffjhhammeiaaGolC
import Derived.Shelf.Spec.SlicesInsertGrow
import Derived.Test.YtifffjhhammeiaaBas
import Derived.Test.YtifffjhhammeiaaProg
set_option linter.unusedVariables false
set_option linter.unusedSimpArgs false
set_option maxRecDepth 100000
set_option maxHeartbeats 4000000
namespace Go.Proofs.Ytifffjhhammeiaa
section
open Go.RowKit Go.Lib
theorem run_copyK {P : Program} (w : World) (dT sT ty elem : TypeId) (k b o dLen dCap : Nat) (a : Addr) (sLen sCap : Nat) (cs : List Value)
  (hu : P.underlying dT = some (.slice elem)) (hs : (P.info? elem).map (·.size) = some k) (hn : cs.length = Nat.min sLen dLen * k)
  (hsrc : ∀ j v, cs[j]? = some v → w.cell? (a.add j) = some v) (hc : ∀ j, j < cs.length → (w.cell? ⟨b, o + j, none⟩).isSome = true) (hf : ∀ j, j < cs.length → w.frozen? ⟨b, o + j, none⟩ = false) (h1 : ∀ v ∈ cs, v.oneCell' = true) :
  (Builtin.copy_ #[dT, sT] ty #[.slice (some ⟨b, o, none⟩) dLen dCap, .slice (some a) sLen sCap]).run P w = .ok (goInt (Nat.min sLen dLen)) (w.setCells b o cs) := by
 have hl := run_loadCells_list (P := P) w a cs hsrc
 have hst := run_storeCells_cells (P := P) b o cs 0 w (by simpa using hc) (by simpa using hf) h1
 cases hq : P.info? elem with
 | none => simp [hq] at hs
 | some i =>
  have hi : i.size = k := by simpa [hq] using hs
  simp [Builtin.copy_, run_underlying hu, Builtin.lenOf, Builtin.firstCells, sizeOf, typeInfo, hq, hi, ← hn, hl, hst]
theorem Blk.drewR {w : World} {g : Nat} {cur : List Value} {e : TypeId} {fr : Nat × Nat} (h : Blk w g cur e fr) : Blk w.drew g cur e fr := h
def flR (l : List Rv) : List Value := (l.map Rv.cells).flatten
theorem flR_len : ∀ l : List Rv, (flR l).length = l.length * 6
 | [] => rfl
 | a :: l => by unfold flR; rw [List.map_cons, List.flatten_cons, List.length_append]; have := flR_len l; unfold flR at this; rw [this, List.length_cons]; show 6 + _ = _; omega
theorem flR_cons (a : Rv) (l : List Rv) : flR (a :: l) = a.cells ++ flR l := by unfold flR; rw [List.map_cons, List.flatten_cons]
theorem flR_app (l m : List Rv) : flR (l ++ m) = flR l ++ flR m := by unfold flR; rw [List.map_append, List.flatten_append]
theorem flR_take (l : List Rv) (i : Nat) (h : i ≤ l.length) : (flR l).take (i * 6) = flR (l.take i) := by
 conv => lhs; rw [← List.take_append_drop i l, flR_app]
 rw [List.take_append_of_le_length (by rw [flR_len, List.length_take]; omega), List.take_of_length_le (by rw [flR_len, List.length_take]; omega)]
theorem flR_drop (l : List Rv) (i : Nat) (h : i ≤ l.length) : (flR l).drop (i * 6) = flR (l.drop i) := by
 conv => lhs; rw [← List.take_append_drop i l, flR_app]
 rw [List.drop_append_of_le_length (by rw [flR_len, List.length_take]; omega), List.drop_of_length_le (by rw [flR_len, List.length_take]; omega), List.nil_append]
theorem flR_one {l : List Rv} : ∀ v ∈ flR l, v.oneCell' = true := λ v hv => by
 obtain ⟨cs, h1, h2⟩ := List.mem_flatten.1 hv
 obtain ⟨a, _, rfl⟩ := List.mem_map.1 h1
 exact a.cells_one v h2
theorem flR_all {w : World} : ∀ {l : List Rv}, (∀ x ∈ l, x.ok) → All2 (λ es a => Rv.rep.has w es a) (l.map Rv.cells) l
 | [], _ => trivial
 | a :: l, h => ⟨⟨rfl, h a List.mem_cons_self⟩, flR_all λ x hx => h x (List.mem_cons_of_mem _ hx)⟩
theorem flR_ps {w : World} {B : Nat} : ∀ {ps : List (List Nat × List Value)} {l : List Rv}, All2 (λ x a => Rv.rep.own w B x.1 x.2 a) ps l → (ps.map (·.2)).flatten = flR l ∧ ∀ x ∈ l, x.ok
 | [], [], _ => ⟨rfl, by simp⟩
 | p :: ps, a :: l, h => by
  obtain ⟨⟨_, h1, h2⟩, h3⟩ := h
  obtain ⟨e, ho⟩ := flR_ps h3
  refine ⟨by rw [List.map_cons, List.flatten_cons, e, h1, flR_cons], λ x hx => ?_⟩
  rcases List.mem_cons.1 hx with rfl | hx
  ·exact h2
  ·exact ho x hx
 | [], _ :: _, h => h.elim
 | _ :: _, [], h => h.elim
def goodR (cur : List Value) : Prop := ∀ (j : Nat) u, cur[j]? = some u → Rv.raw (j % 6) u
theorem openR {w : World} {B c g : Nat} {l : List Rv} (h : Rv.rep.SOwn 69 64 w B (Rep.blkOf (some ⟨g, 0, none⟩)) (some ⟨g, 0, none⟩) c l) :
  ∃ cur : List Value, Blk w g cur 69 (0, 0) ∧ B ≤ g ∧ c ≤ maxLen ∧ cur.length = c * 6 ∧ l.length ≤ c ∧ cur.take (l.length * 6) = flR l ∧ goodR cur ∧ ∀ x ∈ l, x.ok := by
 obtain ⟨hb, ps, hf, hn, ho, hall⟩ := h
 obtain ⟨e, hok⟩ := flR_ps hall
 rw [e] at ho
 obtain ⟨_, h2⟩ := ho
 rcases h2 with ⟨h2, _⟩ | ⟨g', cap, cur, hv, hB, hh, hnc, hcm, hs, ht, hG⟩
 ·cases h2
 ·injection hv with e1 e2 e3
  injection e1 with e1
  injection e1 with e1
  subst e1 e3
  exact ⟨cur.toList, hh, hB, hcm, by have hs : cur.size = c * 6 := hs; simpa using hs, hnc, ht, λ j u hu => hG j u (by rw [← Array.getElem?_toList]; exact hu), hok⟩
theorem closeR {w : World} {B c g : Nat} {l : List Rv} {cur : List Value} (h : Blk w g cur 69 (0, 0)) (hB : B ≤ g) (hcm : c ≤ maxLen) (hs : cur.length = c * 6) (hn : l.length ≤ c) (hb : l.length * 64 ≤ 140737488355328) (ht : cur.take (l.length * 6) = flR l) (hG : goodR cur) (hok : ∀ x ∈ l, x.ok) :
  Rv.rep.SOwn 69 64 w B (Rep.blkOf (some ⟨g, 0, none⟩)) (some ⟨g, 0, none⟩) c l := by
 refine Rep.SOwn.of_plain Rep.flat_plain (flR_all hok) hb ?_
 show Own w B 69 Rv.rep.size Rv.rep.raw _ l.length (flR l)
 refine ⟨flR_len l, .inr ⟨g, c, cur.toArray, rfl, hB, h, hn, hcm, by rw [List.size_toArray, hs]; rfl, ?_, λ j u hu => hG j u (by rw [List.getElem?_toArray] at hu; exact hu)⟩⟩
 exact ht
def setR (cur : List Value) : Nat → List Value → List Value
 | _, [] => cur
 | o, v :: r => setR (cur.set o v) (o + 1) r
theorem Blk.setCellsR {g : Nat} {e : TypeId} : ∀ (zs : List Value) (o : Nat) (w : World) (cur : List Value), Blk w g cur e (0, 0) → Blk (w.setCells g o zs) g (setR cur o zs) e (0, 0)
 | [], _, _, _, h => h
 | v :: r, o, w, cur, h => Blk.setCellsR r (o + 1) _ _ (h.set o v)
theorem setR_eq : ∀ (zs : List Value) (o : Nat) (cur : List Value), o + zs.length ≤ cur.length → setR cur o zs = cur.take o ++ zs ++ cur.drop (o + zs.length)
 | [], o, cur, _ => by simp [setR]
 | v :: r, o, cur, h => by
  rw [List.length_cons] at h
  rw [setR, setR_eq r (o + 1) _ (by rw [List.length_set]; omega), List.length_cons, List.drop_set_of_lt (by omega), show o + 1 + r.length = o + (r.length + 1) by omega]
  have : (cur.set o v).take (o + 1) = cur.take o ++ [v] := by
   rw [List.take_succ_eq_append_getElem (by rw [List.length_set]; omega), List.take_set_of_le (Nat.le_refl _), List.getElem_set_self]
  rw [this]; simp
theorem setR_len : ∀ (zs : List Value) (o : Nat) (cur : List Value), (setR cur o zs).length = cur.length
 | [], _, _ => rfl
 | v :: r, o, cur => by rw [setR, setR_len r, List.length_set]
theorem goodR_set {cur : List Value} {o : Nat} {zs : List Value} (h : goodR cur) (hz : goodR zs) (ho : o % 6 = 0) (hl : o + zs.length ≤ cur.length) : goodR (setR cur o zs) := by
 rw [setR_eq _ _ _ hl]
 intro j u hu
 by_cases h1 : j < o
 ·rw [List.append_assoc, List.getElem?_append_left (by rw [List.length_take]; omega), List.getElem?_take, if_pos h1] at hu; exact h j u hu
 ·have ho' : (cur.take o).length = o := by rw [List.length_take]; omega
  by_cases h2 : j < o + zs.length
  ·rw [List.append_assoc, List.getElem?_append_right (by omega), ho', List.getElem?_append_left (by omega)] at hu
   have := hz _ u hu; rwa [show (j - o) % 6 = j % 6 by omega] at this
  ·rw [List.append_assoc, List.getElem?_append_right (by omega), ho', List.getElem?_append_right (by omega), List.getElem?_drop] at hu
   have := h _ u hu; rwa [show o + zs.length + (j - o - zs.length) = j by omega] at this
theorem goodR_fl (l : List Rv) : goodR (flR l) := by
 induction l with
 | nil => intro j u hu; cases hu
 | cons a l ih =>
  intro j u hu
  rw [flR_cons] at hu
  by_cases h : j < 6
  ·rw [List.getElem?_append_left h] at hu
   have := a.cells_raw j u hu; rwa [Nat.mod_eq_of_lt h]
  ·rw [List.getElem?_append_right (by show 6 ≤ j; omega)] at hu
   have := ih _ u hu; rwa [show (j - a.cells.length) % 6 = j % 6 by show (j - 6) % 6 = _; omega] at this
theorem goodR_zero (k : Nat) : goodR (Builtin.zeroCells Rv.zero.cells k).toList := λ j u hu =>
 zeroCells_good (z := Rv.zero.cells) (size := 6) (G := Rv.raw) rfl (by decide) Rv.zero_raw k j u (by rw [← Array.getElem?_toList]; exact hu)
theorem goodR_app {a b : List Value} (ha : goodR a) (hb : goodR b) (h : a.length % 6 = 0) : goodR (a ++ b) := by
 intro j u hu
 by_cases h1 : j < a.length
 ·rw [List.getElem?_append_left h1] at hu; exact ha j u hu
 ·rw [List.getElem?_append_right (by omega)] at hu
  have := hb _ u hu; rwa [show (j - a.length) % 6 = j % 6 by omega] at this
theorem insR_cells {cur : List Value} {l : List Rv} {i : Nat} {x : Rv} (hi : i ≤ l.length) (hc : (l.length + 1) * 6 ≤ cur.length) (ht : cur.take (i * 6) = flR (l.take i)) :
  (setR (setR cur ((i + 1) * 6) (flR (l.drop i))) (i * 6) x.cells).take ((l.length + 1) * 6) = flR (l.take i ++ x :: l.drop i) := by
 have hd : (flR (l.drop i)).length = (l.length - i) * 6 := by rw [flR_len, List.length_drop]
 have hx : x.cells.length = 6 := rfl
 have h1 : setR cur ((i + 1) * 6) (flR (l.drop i)) = cur.take ((i + 1) * 6) ++ flR (l.drop i) ++ cur.drop ((l.length + 1) * 6) := by rw [setR_eq _ _ _ (by rw [hd]; omega), hd, show (i + 1) * 6 + (l.length - i) * 6 = (l.length + 1) * 6 by omega]
 have hl1 : (cur.take ((i + 1) * 6)).length = (i + 1) * 6 := by rw [List.length_take]; omega
 rw [setR_eq _ _ _ (by rw [setR_len, hx]; omega), h1, hx]
 have e1 : (cur.take ((i + 1) * 6) ++ flR (l.drop i) ++ cur.drop ((l.length + 1) * 6)).take (i * 6) = flR (l.take i) := by
  rw [List.append_assoc, List.take_append_of_le_length (by omega), List.take_take, Nat.min_eq_left (by omega), ht]
 have e2 : (cur.take ((i + 1) * 6) ++ flR (l.drop i) ++ cur.drop ((l.length + 1) * 6)).drop (i * 6 + 6) = flR (l.drop i) ++ cur.drop ((l.length + 1) * 6) := by
  rw [List.append_assoc, List.drop_append_of_le_length (by omega), List.drop_of_length_le (by omega), List.nil_append]
 rw [e1, e2]
 have hl2 : (flR (l.take i)).length = i * 6 := by rw [flR_len, List.length_take]; omega
 have : flR (l.take i) ++ x.cells ++ (flR (l.drop i) ++ cur.drop ((l.length + 1) * 6)) = flR (l.take i ++ x :: l.drop i) ++ cur.drop ((l.length + 1) * 6) := by rw [flR_app, flR_cons]; simp
 rw [this, List.take_append_of_le_length (by rw [flR_len, List.length_append, List.length_cons, List.length_take, List.length_drop]; omega), List.take_of_length_le (by rw [flR_len, List.length_append, List.length_cons, List.length_take, List.length_drop]; omega)]
theorem insR_cells' {cur : List Value} {l : List Rv} {i : Nat} {x : Rv} (hi : i ≤ l.length) (hc : (l.length + 1) * 6 ≤ cur.length) (ht : cur.take (i * 6) = flR (l.take i)) :
  (setR (setR cur (i * 6) x.cells) ((i + 1) * 6) (flR (l.drop i))).take ((l.length + 1) * 6) = flR (l.take i ++ x :: l.drop i) := by
 have hd : (flR (l.drop i)).length = (l.length - i) * 6 := by rw [flR_len, List.length_drop]
 have hx : x.cells.length = 6 := rfl
 have hl2 : (flR (l.take i)).length = i * 6 := by rw [flR_len, List.length_take]; omega
 have h1 : setR cur (i * 6) x.cells = cur.take (i * 6) ++ x.cells ++ cur.drop ((i + 1) * 6) := by rw [setR_eq _ _ _ (by rw [hx]; omega), hx, show i * 6 + 6 = (i + 1) * 6 by omega]
 rw [setR_eq _ _ _ (by rw [setR_len, hd]; omega), h1, ht, hd]
 have e1 : (flR (l.take i) ++ x.cells ++ cur.drop ((i + 1) * 6)).take ((i + 1) * 6) = flR (l.take i) ++ x.cells := by
  rw [List.take_append_of_le_length (by rw [List.length_append, hx, hl2]; omega), List.take_of_length_le (by rw [List.length_append, hx, hl2]; omega)]
 rw [e1]
 have : flR (l.take i ++ x :: l.drop i) = flR (l.take i) ++ x.cells ++ flR (l.drop i) := by rw [flR_app, flR_cons]; simp
 rw [this, List.take_append_of_le_length (by rw [List.length_append, List.length_append, hx, hl2, hd]; omega), List.take_of_length_le (by rw [List.length_append, List.length_append, hx, hl2, hd]; omega)]
theorem insR_len (l : List Rv) {i : Nat} (x : Rv) (hi : i ≤ l.length) : (l.take i ++ x :: l.drop i).length = l.length + 1 := by
 rw [List.length_append, List.length_cons, List.length_take, List.length_drop]; omega
theorem insR_ok {l : List Rv} {i : Nat} {x : Rv} (h : ∀ y ∈ l, y.ok) (hx : x.ok) : ∀ y ∈ l.take i ++ x :: l.drop i, y.ok := λ y hy => by
 rcases List.mem_append.1 hy with hy | hy
 ·exact h y (List.mem_of_mem_take hy)
 ·rcases List.mem_cons.1 hy with rfl | hy
  ·exact hx
  ·exact h y (List.mem_of_mem_drop hy)
theorem Mod.cellsR (g : Nat) : ∀ (zs : List Value) (o : Nat) (w : World), Mod [g] w (w.setCells g o zs)
 | [], _, w => Mod.of_ext (Ext.rf w)
 | v :: r, o, w => by
  rw [World.setCells]
  exact (Mod.setCell w ⟨g, o, none⟩ v).trans (Mod.cellsR g r (o + 1) _)
theorem Mod.freshR {w1 w' : World} {w : World} (h : Ext w w1) (m : Mod [w.heap.size] w1 w') : Ext w w' :=
 ⟨m.os.trans h.os, m.tape.trans h.tape, m.output.trans h.output, Nat.le_trans h.size m.size, λ k hk => (m.block k (Nat.lt_of_lt_of_le hk h.size) (by simp; omega)).trans (h.block k hk)⟩
theorem ext_drewR' (w : World) : Ext w w.drew := (Below.refl _ w).drew
theorem insR_shift (b n c i vb vc : Nat) (cs vs : List Value) (w : World) (hi : i < n) (hroom : n + 1 ≤ c) (hc63 : c ≤ 9223372036854775807) (hvb : vb ≠ b)
  (hcl : cs.length = n * 6) (hvl : vs.length = 6)
  (hcs : ∀ j v, cs[j]? = some v → w.cell? ⟨b, j, none⟩ = some v) (hsp : ∀ j, j < (n + 1) * 6 → (w.cell? ⟨b, j, none⟩).isSome = true) (hfz : ∀ j, j < (n + 1) * 6 → w.frozen? ⟨b, j, none⟩ = false)
  (hvs : ∀ j v, vs[j]? = some v → w.cell? ⟨vb, j, none⟩ = some v) (h1c : ∀ v ∈ cs, v.oneCell' = true) (h1v : ∀ v ∈ vs, v.oneCell' = true)
  (tA tB : TypeId) (kA kB : Nat) (hsa : w.shape? vb = some (tA, kA)) (hsb : w.shape? b = some (tB, kB)) (hkB : kB ≠ 0) (hfa : w.frozen? ⟨vb, 0, none⟩ = false) (hfe : w.frozen? ⟨vb, kA, none⟩ = false) :
  Calls Try.prog 95 #[.slice (some ⟨b, 0, none⟩) n c, .int .i64 i, .slice (some ⟨vb, 0, none⟩) 1 vc] w λ e w' =>
   e = .returned (.slice (some ⟨b, 0, none⟩) (n + 1) c) ∧ w' = (w.drew.setCells b ((i + 1) * 6) (cs.drop (i * 6))).setCells b (i * 6) vs := by
 have u0 := run_underlying Try.underlying0; have u3 := run_underlying Try.underlying3; have u4 := run_underlying Try.underlying4; have u22 := run_underlying Try.underlying60
 have t3 := Try.underlying3; have a3 := Try.isAgg3; have z3 := Try.sizeOf3; have v3 := Try.zeroValue3; have t4 := Try.underlying4; have a4 := Try.isAgg4; have z4 := Try.sizeOf4; have v4 := Try.zeroValue4; have t22 := Try.underlying60; have a22 := Try.isAgg60; have z22 := Try.sizeOf60; have v22 := Try.zeroValue60; have aE := Try.isAgg69; have zE := Try.sizeOf69; have vE := Try.zeroValue69
 have mixed : Try.prog.follows .mixedOrders = true := by kernel_rfl
 have hsz : (Try.prog.info? 69).map (·.size) = some 6 := by
  have := Rv.info; cases hq : Try.prog.info? 69 with
  | none => rw [hq] at this; cases this
  | some i => rw [hq] at this; simp only [Option.map_some, Option.some.injEq, Prod.mk.injEq] at this ⊢; exact this.2.1
 have hz2 : ¬ ((i : Int) = (n : Int)) := by omega
 have hov : ∀ lb cb, (callFunc 103 #[.slice (some ⟨vb, 0, none⟩) 1 vc, .slice (some ⟨b, (i + 1) * 6, none⟩) lb cb]).run Try.prog w = .ok (.value (.bool false)) w := λ lb cb => by
  rw [run_callFunc_extern Try.func103 (by kernel_rfl) (by kernel_rfl) (by kernel_rfl) (e := Extern.SlicesOverlaps.overlaps #[60, 60] #[4]) (by kernel_rfl),
   Lib.run_overlaps_apart w 60 4 69 Try.underlying60 6 Try.sizeOf69 ⟨vb, 0, none⟩ ⟨b, (i + 1) * 6, none⟩ 1 vc lb cb hvb tA tB kA kB hsa hsb hkB hfa hfe]
  rfl
 have hdl : (cs.drop (i * 6)).length = (n - i) * 6 := by rw [List.length_drop, hcl]; omega
 have hw1 : IntKind.i64.wrap ((i : Int) + (1 : Int)) = (i : Int) + (1 : Int) := by rw [IntKind.wrap_i64]; omega
 have hw2 : IntKind.i64.wrap ((n : Int) + (1 : Int)) = (n : Int) + (1 : Int) := by rw [IntKind.wrap_i64]; omega
 have hb1 : (0 : Int) ≤ (i : Int) + (1 : Int) := by omega
 have hin : i ≤ n := by omega
 have htn : ((i : Int) + (1 : Int)).toNat = i + 1 := by omega
 have htn2 : ((n : Int) + (1 : Int)).toNat = n + 1 := by omega
 have hb2 : ¬ (c = i + 1) := by omega
 have hb3 : (i : Int) ≤ (n : Int) + (1 : Int) := by omega
 have hb4 : ¬ (c = i) := by omega
 have hb5 : ¬ ((c : Int) < (n : Int) + (1 : Int)) := by omega
 have hb6 : (n : Int) + (1 : Int) ≤ (c : Int) := by omega
 have hcp1 : ∀ ty dc sc, (Builtin.copy_ #[60, 60] ty #[.slice (some ⟨b, (i + 1) * 6, none⟩) (n - i) dc, .slice (some ⟨b, i * 6, none⟩) (n + 1 - i) sc]).run Try.prog w.drew = .ok (goInt (Nat.min (n + 1 - i) (n - i))) (w.drew.setCells b ((i + 1) * 6) (cs.drop (i * 6))) := λ ty dc sc =>
  run_copyK w.drew _ _ ty 69 6 b ((i + 1) * 6) (n - i) dc ⟨b, i * 6, none⟩ (n + 1 - i) sc (cs.drop (i * 6)) Try.underlying60 hsz (by rw [hdl]; congr 1; simp only [Nat.min_def]; split <;> omega)
   (λ j v hj => by rw [Addr.add_lit]; exact hcs (i * 6 + j) v (by rwa [List.getElem?_drop] at hj))
   (λ j hj => hsp _ (by omega)) (λ j hj => hfz _ (by omega)) (λ v hv => h1c v (List.mem_of_mem_drop hv))
 obtain ⟨W1, hW1⟩ : ∃ W1, W1 = w.drew.setCells b ((i + 1) * 6) (cs.drop (i * 6)) := ⟨_, rfl⟩
 have hsp1 : ∀ k, k < (n + 1) * 6 → (W1.cell? ⟨b, k, none⟩).isSome = true := λ k hk => by
  rw [hW1]
  exact isSome_setCells b (cs.drop (i * 6)) ((i + 1) * 6) w.drew (λ j hj => hsp _ (by omega)) k (hsp k hk)
 have hcp2 : ∀ (W : World), (∀ x, W.cell? x = W1.cell? x) → (∀ x, W.frozen? x = W1.frozen? x) → ∀ ty dc, (Builtin.copy_ #[60, 60] ty #[.slice (some ⟨b, i * 6, none⟩) (n + 1 - i) dc, .slice (some ⟨vb, 0, none⟩) 1 vc]).run Try.prog W = .ok (goInt (Nat.min 1 (n + 1 - i))) (W.setCells b (i * 6) vs) := λ W hWc hWf ty dc =>
  run_copyK W _ _ ty 69 6 b (i * 6) (n + 1 - i) dc ⟨vb, 0, none⟩ 1 vc vs Try.underlying60 hsz (by rw [hvl]; simp only [Nat.min_def]; split <;> omega)
   (λ j v hj => by
    rw [Addr.add_lit, hWc, hW1, World.cell?_setCells_out b _ _ _ _ (λ h _ => absurd h hvb), Nat.zero_add]
    exact hvs j v hj)
   (λ j hj => by rw [hWc]; exact hsp1 _ (by omega)) (λ j hj => by rw [hWf, hW1, World.frozen?_setCells]; exact hfz _ (by omega)) h1v
 rw [← hW1] at hcp1
 go_enter Try.func95, Try.ntmps95
 go_wp2_with (simp only [hov])
 go_region_law_o (refine step_copy_runI rfl _ _ 60 60 rfl _ _ (by simp [Act.eval, Act.put]) (by simp [Act.eval, Act.put]) (hcp1 _ _ _) ?_)
 go_wp2_with (at_builtin; refine wpList_copy_runI _ rfl _ _ 60 60 rfl _ _ rfl rfl (hcp2 _ (λ _ => rfl) (λ _ => rfl) _ _) ?_)
 go_ret
 first | exact ⟨rfl, rfl⟩ | exact ⟨rfl, by rw [hW1]⟩
theorem insR_grow (b n c i vb vc : Nat) (cs vs : List Value) (w : World) (hi : i < n) (hnc : n ≤ c) (hroom : c < n + 1) (hbig : (n + 1) * 64 ≤ 140737488355328)
  (hcl : cs.length = n * 6) (hvl : vs.length = 6)
  (hcs : ∀ j v, cs[j]? = some v → w.cell? ⟨b, j, none⟩ = some v)
  (hvs : ∀ j v, vs[j]? = some v → w.cell? ⟨vb, j, none⟩ = some v) (h1c : ∀ v ∈ cs, v.oneCell' = true) (h1v : ∀ v ∈ vs, v.oneCell' = true) :
  Calls Try.prog 95 #[.slice (some ⟨b, 0, none⟩) n c, .int .i64 i, .slice (some ⟨vb, 0, none⟩) 1 vc] w λ e w' =>
   e = .returned (.slice (some ⟨w.heap.size, 0, none⟩) (n + 1) (grownCap w (n + 1) c 69)) ∧
   w' = (((w.alloc (.cells ((cs.take (i * 6)).toArray ++ Builtin.zeroCells Rv.zero.cells (n + 1 - i) ++ Builtin.zeroCells Rv.zero.cells (grownCap w (n + 1) c 69 - (n + 1))) 69)).drew.setCells w.heap.size (i * 6) vs).drew).setCells w.heap.size ((i + 1) * 6) (cs.drop (i * 6)) := by
 have u0 := run_underlying Try.underlying0; have u3 := run_underlying Try.underlying3; have u4 := run_underlying Try.underlying4; have u22 := run_underlying Try.underlying60
 have t3 := Try.underlying3; have a3 := Try.isAgg3; have z3 := Try.sizeOf3; have v3 := Try.zeroValue3; have t4 := Try.underlying4; have a4 := Try.isAgg4; have z4 := Try.sizeOf4; have v4 := Try.zeroValue4; have t22 := Try.underlying60; have a22 := Try.isAgg60; have z22 := Try.sizeOf60; have v22 := Try.zeroValue60; have aE := Try.isAgg69; have zE := Try.sizeOf69; have vE := Try.zeroValue69
 have mixed : Try.prog.follows .mixedOrders = true := by kernel_rfl
 have hsz : (Try.prog.info? 69).map (·.size) = some 6 := by
  have := Rv.info; cases hq : Try.prog.info? 69 with
  | none => rw [hq] at this; cases this
  | some i => rw [hq] at this; simp only [Option.map_some, Option.some.injEq, Prod.mk.injEq] at this ⊢; exact this.2.1
 obtain ⟨i0, hi0, hz0, hzs, hzb⟩ := info_parts Rv.info
 have hz2 : ¬ ((i : Int) = (n : Int)) := by omega
 have hz3 : (c : Int) < (n : Int) + (1 : Int) := by omega
 have hbw : b < w.heap.size := block_lt_of_cell (hcs 0 _ (List.getElem?_eq_getElem (by omega)))
 have hvw : vb < w.heap.size := block_lt_of_cell (hvs 0 _ (List.getElem?_eq_getElem (by omega)))
 have hkk : (n : Int) + (1 : Int) - (i : Int) = ((n + 1 - i : Nat) : Int) := by omega
 have hik : i + (n + 1 - i) = n + 1 := by omega
 have hold : (Builtin.firstCells i0.size i (.slice (some ⟨b, 0, none⟩) i c)).run Try.prog w.drew = .ok (cs.take (i * 6)).toArray w.drew := by
  rw [hzs]
  exact run_firstCells_some w.drew 6 i ⟨b, 0, none⟩ i c (cs.take (i * 6)) (by rw [List.length_take]; omega) (λ j v hj => by
   rw [Addr.add_lit, Nat.zero_add]
   rw [List.getElem?_take] at hj
   split at hj
   ·exact hcs j v hj
   ·cases hj)
 have hrz : ∀ ty, (Builtin.append_ #[60, 3] ty #[.slice (some ⟨b, 0, none⟩) i c, .int .i64 ((n : Int) + (1 : Int) - (i : Int))]).run Try.prog w =
   .ok (.slice (some ⟨w.heap.size, 0, none⟩) (n + 1) (grownCap w (n + 1) c 69)) (w.drew.alloc (.cells ((cs.take (i * 6)).toArray ++ Builtin.zeroCells Rv.zero.cells (n + 1 - i) ++ Builtin.zeroCells Rv.zero.cells (grownCap w (n + 1) c 69 - (n + 1))) 69)) := λ ty => by
  have h := Lib.run_append_grow_zeros w 60 3 ty 69 i0 _ .i64 .i64 Try.underlying60 Try.underlying3 hi0 hz0 (some ⟨b, 0, none⟩) i c (cs.take (i * 6)) hold (n + 1 - i) (by omega) (by omega) (by omega) (by omega) (by rw [hzb]; omega) (by rw [hzb, hik]; exact growslice_fits hroom hbig)
  rw [hik] at h
  rw [hkk]
  exact h
 obtain ⟨G, hG⟩ : ∃ G, G = grownCap w (n + 1) c 69 := ⟨_, rfl⟩
 obtain ⟨ROW, hROW⟩ : ∃ ROW : Array Value, ROW = (cs.take (i * 6)).toArray ++ Builtin.zeroCells Rv.zero.cells (n + 1 - i) ++ Builtin.zeroCells Rv.zero.cells (G - (n + 1)) := ⟨_, rfl⟩
 rw [← hG] at hrz ⊢
 rw [← hROW] at hrz ⊢
 have hz6 : Rv.zero.cells.size = 6 := rfl
 have hRl : (n + 1) * 6 ≤ ROW.size := by
  rw [hROW]
  simp [Builtin.zeroCells, hz6]
  omega
 obtain ⟨W1, hW1⟩ : ∃ W1, W1 = w.drew.alloc (.cells ROW 69) := ⟨_, rfl⟩
 rw [← hW1] at hrz
 have hN : ∀ j, j < (n + 1) * 6 → (W1.cell? ⟨w.heap.size, j, none⟩).isSome = true := λ j hj => by
  rw [hW1, World.cell?_alloc_at (w := w.drew) ROW _ w.heap.size j rfl, Array.getElem?_eq_getElem (by omega)]; rfl
 have hNf : ∀ j, W1.frozen? ⟨w.heap.size, j, none⟩ = false := λ j => by rw [hW1]; exact World.frozen?_alloc_at (w := w.drew) ROW _ w.heap.size j rfl
 have hOb : ∀ j v, w.cell? ⟨b, j, none⟩ = some v → W1.cell? ⟨b, j, none⟩ = some v := λ j v h => by rw [hW1, World.cell?_alloc_past (w := w.drew) _ b j hbw]; exact h
 have hOv : ∀ j v, w.cell? ⟨vb, j, none⟩ = some v → W1.cell? ⟨vb, j, none⟩ = some v := λ j v h => by rw [hW1, World.cell?_alloc_past (w := w.drew) _ vb j hvw]; exact h
 have hcpA : ∀ (W : World), (∀ x, W.cell? x = W1.cell? x) → (∀ x, W.frozen? x = W1.frozen? x) → ∀ ty dc, (Builtin.copy_ #[60, 60] ty #[.slice (some ⟨w.heap.size, i * 6, none⟩) (n + 1 - i) dc, .slice (some ⟨vb, 0, none⟩) 1 vc]).run Try.prog W = .ok (goInt (Nat.min 1 (n + 1 - i))) (W.setCells w.heap.size (i * 6) vs) := λ W hWc hWf ty dc =>
  run_copyK W _ _ ty 69 6 w.heap.size (i * 6) (n + 1 - i) dc ⟨vb, 0, none⟩ 1 vc vs Try.underlying60 hsz (by rw [hvl]; simp only [Nat.min_def]; split <;> omega)
   (λ j v hj => by rw [Addr.add_lit, hWc, Nat.zero_add]; exact hOv _ v (hvs j v hj))
   (λ j hj => by rw [hWc]; exact hN _ (by omega)) (λ j hj => by rw [hWf]; exact hNf _) h1v
 have hGn : n + 1 ≤ G := by rw [hG]; exact grownCap_ge w _ _ _
 have hG63 : G ≤ 9223372036854775807 := by
  have := grownCap_le_maxLen w (n + 1) c 69 (by unfold maxLen; omega)
  rw [← hG] at this
  unfold maxLen at this
  omega
 have hGi : ¬ (G = i) := by omega
 have hGim : ¬ (G = i + 1) := by omega
 have hci : ¬ (c = i) := by omega
 have hbN : b ≠ w.heap.size := by omega
 have hdl : (cs.drop (i * 6)).length = (n - i) * 6 := by rw [List.length_drop, hcl]; omega
 have hcpB : ∀ (W : World), (∀ x, W.cell? x = (W1.setCells w.heap.size (i * 6) vs).cell? x) → (∀ x, W.frozen? x = (W1.setCells w.heap.size (i * 6) vs).frozen? x) → ∀ ty dc sc, (Builtin.copy_ #[60, 60] ty #[.slice (some ⟨w.heap.size, (i + 1) * 6, none⟩) (n - i) dc, .slice (some ⟨b, i * 6, none⟩) (n - i) sc]).run Try.prog W = .ok (goInt (Nat.min (n - i) (n - i))) (W.setCells w.heap.size ((i + 1) * 6) (cs.drop (i * 6))) := λ W hWc hWf ty dc sc =>
  run_copyK W _ _ ty 69 6 w.heap.size ((i + 1) * 6) (n - i) dc ⟨b, i * 6, none⟩ (n - i) sc (cs.drop (i * 6)) Try.underlying60 hsz (by rw [hdl]; congr 1; simp only [Nat.min_def]; split <;> omega)
   (λ j v hj => by
    rw [Addr.add_lit, hWc, World.cell?_setCells_out _ _ _ _ _ (λ h _ => absurd h hbN)]
    exact hOb _ v (hcs (i * 6 + j) v (by rwa [List.getElem?_drop] at hj)))
   (λ j hj => by rw [hWc]; exact isSome_setCells _ vs (i * 6) W1 (λ t ht => hN _ (by omega)) _ (hN _ (by omega)))
   (λ j hj => by rw [hWf, World.frozen?_setCells]; exact hNf _) (λ v hv => h1c v (List.mem_of_mem_drop hv))
 subst hW1
 have hE1 : ∀ x, ((w.alloc (.cells ROW 69)).drew).cell? x = (w.drew.alloc (.cells ROW 69)).cell? x := λ x => rfl
 have hE2 : ∀ x, ((w.alloc (.cells ROW 69)).drew).frozen? x = (w.drew.alloc (.cells ROW 69)).frozen? x := λ x => rfl
 have hF1 : ∀ x, (((w.alloc (.cells ROW 69)).drew.setCells w.heap.size (i * 6) vs).drew).cell? x = ((w.drew.alloc (.cells ROW 69)).setCells w.heap.size (i * 6) vs).cell? x := λ x => rfl
 have hF2 : ∀ x, (((w.alloc (.cells ROW 69)).drew.setCells w.heap.size (i * 6) vs).drew).frozen? x = ((w.drew.alloc (.cells ROW 69)).setCells w.heap.size (i * 6) vs).frozen? x := λ x => rfl
 have hw1 : IntKind.i64.wrap ((i : Int) + (1 : Int)) = (i : Int) + (1 : Int) := by rw [IntKind.wrap_i64]; omega
 have hw2 : IntKind.i64.wrap ((n : Int) + (1 : Int)) = (n : Int) + (1 : Int) := by rw [IntKind.wrap_i64]; omega
 have hb1 : (0 : Int) ≤ (i : Int) + (1 : Int) := by omega
 have hin : i ≤ n := by omega
 have htn : ((i : Int) + (1 : Int)).toNat = i + 1 := by omega
 have hb3 : (i : Int) ≤ (n : Int) := by omega
 clear hkk hik hold hROW hG hRl
 go_enter Try.func95, Try.ntmps95
 go_wp2_with (first
  | (at_builtin; refine Lib.wpList_append_run _ rfl _ _ _ _ rfl _ _ rfl rfl _ _ (hrz _) ?_)
  | (at_builtin; refine wpList_copy_runI _ rfl _ _ 60 60 rfl _ _ rfl rfl (hcpA _ hE1 hE2 _ _) ?_)
  | (at_builtin; refine wpList_copy_runI _ rfl _ _ 60 60 rfl _ _ rfl rfl (hcpB _ (λ _ => rfl) (λ _ => rfl) _ _ _) ?_))
 go_region_law_o (refine step_copy_runI rfl _ _ 60 60 rfl (.slice (some ⟨w.heap.size, (i + 1) * 6, none⟩) (n - i) (G - (i + 1))) (.slice (some ⟨b, i * 6, none⟩) (n - i) (c - i)) (by simp [Act.eval, Act.put]) (by simp [Act.eval, Act.put]) (hcpB _ hF1 hF2 _ (G - (i + 1)) (c - i)) ?_)
 go_wp2
 go_ret
 exact ⟨rfl, rfl⟩
theorem InR_el_S_api_Round : ElT Try.prog Rv.rep 60 69 64 := ElT.mk_ (z := Rv.zero) (k := 6) Try.underlying60 Rv.info rfl rfl (by decide) Rv.zero_raw
theorem insR_end (w0 : World) (A : Option Addr) (c vb : Nat) (l : List Rv) (x : Rv) (w : World) (hx0 : Ext w0 w) (hO : Rv.rep.SOwn 69 64 w w0.heap.size (Rep.blkOf A) A c l) (hl : l.length ≤ 1000000) (hx : x.ok) (hV : Blk w vb x.cells 69 (0, 0)) (hvb : ∀ q ∈ Rep.blkOf A, q = vb → False) :
  Calls Try.prog 95 #[.slice A l.length c, .int .i64 (l.length : Int), .slice (some ⟨vb, 0, none⟩) 1 1] w (λ e w' => ∃ A' c', e = .returned (.slice A' (l.length + 1) c') ∧ Rv.rep.SOwn 69 64 w' w0.heap.size (Rep.blkOf A') A' c' (l ++ [x]) ∧ (∀ q ∈ Rep.blkOf A', q ∈ Rep.blkOf A ∨ w.heap.size ≤ q) ∧ Mod (Rep.blkOf A) w w') := by
 have lA := λ q hq => (hO.lt q hq).1
 have uA := λ q hq => (hO.lt q hq).2
 have hxs := hx0.size
 have hvl := hV.lt
 refine calls_W (n := 95) Try.func95 rfl rfl rfl ?_
 refine sg <| va rfl <| nK <| sg <| vm rfl <| vm rfl <| vL (sT l.length Try.underlying60 eF0 rfl rfl rfl (Nat.le_refl _)) <| nK <| sg <| vm rfl <| vL (ln Try.underlying60 rfl) <| va rfl <| nK <| sq <| sg <| vm rfl <| vL (beq rfl rfl) <| ?_
 refine nK <| cF rfl <| sK <| sg <| vm rfl <| vL (ln Try.underlying60 rfl) <| va rfl <| nK <| sq <| sg <| vm rfl <| vm rfl <| vL (beq rfl rfl) <| nK <| cT (evb rfl (beq_self_eq_true _)) <| sg <| vm rfl <| ?_
 refine vm rfl <| ap InR_el_S_api_Round Rep.flat_bare hO (Blk.has1 (R := Rv.rep) (by_ := 64) (q := x) hV ⟨rfl, hx⟩ (by decide)) rfl rfl (by simp only [List.length_cons, List.length_nil]; omega) (by simp only [List.length_cons, List.length_nil]; omega) (by omega) rfl λ w_1 A_2 c_3 m_4 O_5 g_6 n_7 => ?_
 have := m_4.size
 have z_1 := (Mod.rf (Rep.blkOf A) w).md m_4 (λ q hq => .inl hq)
 have u_9 := λ q hq => (O_5.lt q hq).2
 have := m_4.size
 refine va rfl <| nK <| rt <| tT <| tR (.tmp rfl .nil) <| ?_
 exact ⟨A_2, c_3, by rw [List.length_append]; rfl, O_5, g_6, z_1⟩
theorem insR_any (w0 : World) (A : Option Addr) (c i vb : Nat) (l : List Rv) (x : Rv) (w : World) (hx0 : Ext w0 w) (hO : Rv.rep.SOwn 69 64 w w0.heap.size (Rep.blkOf A) A c l) (hi : i ≤ l.length) (hl : l.length ≤ 1000000) (hx : x.ok)
  (hV : Blk w vb x.cells 69 (0, 0)) (hvb : ∀ q ∈ Rep.blkOf A, q = vb → False) :
  Calls Try.prog 95 #[.slice A l.length c, .int .i64 (i : Int), .slice (some ⟨vb, 0, none⟩) 1 1] w λ e w' => ∃ A' c', e = .returned (.slice A' (l.length + 1) c') ∧
   Rv.rep.SOwn 69 64 w' w0.heap.size (Rep.blkOf A') A' c' (l.take i ++ x :: l.drop i) ∧ (∀ q ∈ Rep.blkOf A', q ∈ Rep.blkOf A ∨ w.heap.size ≤ q) ∧ Mod (Rep.blkOf A) w w' := by
 have hlen := insR_len l x hi
 have hvs : ∀ (j : Nat) v, x.cells[j]? = some v → w.cell? ⟨vb, j, none⟩ = some v := λ j v hj => by rw [hV.cell]; exact hj
 have h1v := x.cells_one
 have hxs := hx0.size
 have hx6 : x.cells.length = 6 := rfl
 have hbytes : (l.length + 1) * 64 ≤ 140737488355328 := by omega
 have hcap := grownCap_ge w (l.length + 1) c 69
 have hcmx : grownCap w (l.length + 1) c 69 ≤ maxLen := grownCap_le_maxLen _ _ _ _ (by unfold maxLen; omega)
 have new : ∀ q ∈ Rep.blkOf (some ⟨w.heap.size, 0, none⟩), q ∈ Rep.blkOf A ∨ w.heap.size ≤ q := λ q hq => .inr (Nat.le_of_eq (show q = w.heap.size from List.mem_singleton.1 hq).symm)
 have zl : ∀ k, (Builtin.zeroCells Rv.zero.cells k).toList.length = k * 6 := λ k => by rw [Array.length_toList, size_zeroCells]; rfl
 have hcm0 := hO.has.2.1
 rcases Nat.lt_or_ge i l.length with hil | hil
 ·obtain ⟨g, rfl⟩ := hO.block (by omega)
  obtain ⟨cur, hB, hBg, hcm, hs, hn, ht, hr, hok⟩ := openR hO
  have hcl : (flR l).length = l.length * 6 := flR_len l
  have hcs : ∀ (j : Nat) v, (flR l)[j]? = some v → w.cell? ⟨g, j, none⟩ = some v := λ j v hj => by
   rw [hB.cell, ← hj, ← ht, List.getElem?_take, if_pos]
   have := (List.getElem?_eq_some_iff.1 hj).1; omega
  have hti : cur.take (i * 6) = flR (l.take i) := by rw [← flR_take l i hi, ← ht, List.take_take, Nat.min_eq_left (by omega)]
  have hgv : g ≠ vb := λ e => hvb g (List.mem_singleton.2 rfl) e
  have hdr : (flR l).drop (i * 6) = flR (l.drop i) := flR_drop l i hi
  have hdl : (flR (l.drop i)).length = (l.length - i) * 6 := by rw [flR_len, List.length_drop]
  rcases Nat.lt_or_ge c (l.length + 1) with hroom | hroom
  ·refine (insR_grow g l.length c i vb 1 (flR l) x.cells w hil hn hroom hbytes hcl rfl hcs hvs flR_one h1v).mono λ e w' ⟨h1, h2⟩ => ?_
   obtain ⟨Z, hZ⟩ : ∃ Z : List Value, (((flR l).take (i * 6)).toArray ++ Builtin.zeroCells Rv.zero.cells (l.length + 1 - i) ++ Builtin.zeroCells Rv.zero.cells (grownCap w (l.length + 1) c 69 - (l.length + 1))) = Z.toArray := ⟨_, Array.toArray_toList.symm⟩
   have hZl : Z = flR (l.take i) ++ (Builtin.zeroCells Rv.zero.cells (l.length + 1 - i)).toList ++ (Builtin.zeroCells Rv.zero.cells (grownCap w (l.length + 1) c 69 - (l.length + 1))).toList := by
    have := congrArg Array.toList hZ; rw [← flR_take l i hi]; simpa using this.symm
   have htl : (flR (l.take i)).length = i * 6 := by rw [flR_len, List.length_take]; omega
   have hZn : Z.length = grownCap w (l.length + 1) c 69 * 6 := by rw [hZl, List.length_append, List.length_append, zl, zl, htl]; omega
   have hZt : Z.take (i * 6) = flR (l.take i) := by rw [hZl, List.append_assoc, List.take_append_of_le_length (by omega), List.take_of_length_le (by omega)]
   rw [hZ, hdr] at h2
   subst h2
   have hext : Ext w (((w.alloc (.cells Z.toArray 69)).drew.setCells w.heap.size (i * 6) x.cells).drew.setCells w.heap.size ((i + 1) * 6) (flR (l.drop i))) :=
    Mod.freshR (w1 := (w.alloc (.cells Z.toArray 69)).drew) ((Below.refl _ w).alloc (Nat.le_refl _) _).drew
     (((Mod.cellsR w.heap.size x.cells (i * 6) _).trans (Mod.of_ext (ext_drewR' _))).trans (Mod.cellsR w.heap.size (flR (l.drop i)) ((i + 1) * 6) _))
   have hZg : goodR Z := by
    rw [hZl]
    exact goodR_app (goodR_app (goodR_fl _) (goodR_zero _) (by rw [htl]; omega)) (goodR_zero _) (by rw [List.length_append, htl, zl]; omega)
   refine ⟨_, _, h1, closeR (cur := setR (setR Z (i * 6) x.cells) ((i + 1) * 6) (flR (l.drop i))) ?_ hxs hcmx (by rw [setR_len, setR_len]; exact hZn) (by omega) (by rw [hlen]; exact hbytes) (by rw [hlen]; exact insR_cells' hi (by omega) hZt) ?_ (insR_ok hok hx), new, Mod.of_ext hext⟩
   ·have hB2 : Blk (w.alloc (.cells Z.toArray 69)).drew w.heap.size Z 69 (0, 0) := Blk.drewR (Blk.new w Z 69 (0, 0))
    have hB3 := Blk.setCellsR x.cells (i * 6) _ _ hB2
    have hB4 : Blk ((w.alloc (.cells Z.toArray 69)).drew.setCells w.heap.size (i * 6) x.cells).drew w.heap.size (setR Z (i * 6) x.cells) 69 (0, 0) := Blk.drewR hB3
    exact Blk.setCellsR (flR (l.drop i)) ((i + 1) * 6) _ _ hB4
   ·exact goodR_set (goodR_set hZg (by have := goodR_fl [x]; rwa [flR_cons, show flR [] = [] from rfl, List.append_nil] at this) (by omega) (by rw [hx6]; omega)) (goodR_fl _) (by omega) (by rw [setR_len, hdl]; omega)
  ·refine (insR_shift g l.length c i vb 1 (flR l) x.cells w hil hroom (by unfold maxLen at hcm; omega) (λ e => hgv e.symm) hcl rfl hcs (λ j hj => by rw [hB.cell, List.getElem?_eq_getElem (by omega)]; rfl) (λ j _ => hB.free _ (.inr (Nat.zero_le _))) hvs flR_one h1v 69 69 6 (c * 6) (by unfold Blk at hV; simp [World.shape?, hV, hx6]) (by unfold Blk at hB; simp [World.shape?, hB, hs]) (by omega) (hV.free _ (.inr (Nat.zero_le _))) (hV.free _ (.inr (Nat.zero_le _)))).mono λ e w' ⟨h1, h2⟩ => ?_
   rw [hdr] at h2
   subst h2
   refine ⟨_, _, h1, closeR (cur := setR (setR cur ((i + 1) * 6) (flR (l.drop i))) (i * 6) x.cells) ?_ hBg hcm (by rw [setR_len, setR_len]; exact hs) (by omega) (by rw [hlen]; exact hbytes) (by rw [hlen]; exact insR_cells hi (by omega) hti) ?_ (insR_ok hok hx), λ q hq => .inl hq, ?_⟩
   ·exact Blk.setCellsR _ _ _ _ (Blk.setCellsR _ _ _ _ (Blk.drewR hB))
   ·exact goodR_set (goodR_set hr (goodR_fl _) (by omega) (by rw [hdl]; omega)) (by have := goodR_fl [x]; rwa [flR_cons, show flR [] = [] from rfl, List.append_nil] at this) (by omega) (by rw [setR_len, hx6]; omega)
   ·exact ((Mod.of_ext (ext_drewR' w)).trans (Mod.cellsR g _ _ _)).trans (Mod.cellsR g _ _ _)
 ·obtain rfl : i = l.length := by omega
  refine (insR_end w0 A c vb l x w hx0 hO hl hx hV hvb).mono ?_
  rintro e w' ⟨A', c', h1, h2, h3, h4⟩
  exact ⟨A', c', h1, by rw [List.take_length, List.drop_length]; exact h2, h3, h4⟩
end
end Go.Proofs.Ytifffjhhammeiaa
set_option linter.unusedVariables false
set_option linter.unusedSimpArgs false
namespace Go.Proofs.Ytifffjhhammeiaa.Vote
open Go.RowKit Go.Proofs.Ytifffjhhammeiaa.Bv
def diff (a b : Nat) : Nat := (BitVec.ofNat 32 a &&& ~~~BitVec.ofNat 32 b).toNat
theorem wraps_u32 (n : Int) (h₀ : 0 ≤ n) (h₁ : n < 2 ^ 32) : IntKind.u32.wrap n = n := by simp [IntKind.wrap, IntKind.signed, IntKind.bits]; omega
theorem or_num (a b : Nat) (ha : a < 4294967296) (hb : b < 4294967296) : bits .or .u32 (a : Int) (b : Int) = ((a ||| b : Nat) : Int) := (bits_nat .u32 32 (by decide) wraps_u32 a b ha hb).2
theorem lt_or {a b : Nat} (ha : a < 4294967296) (hb : b < 4294967296) : a ||| b < 4294967296 := Nat.or_lt_two_pow (n := 32) ha hb
theorem one_lt {k : Nat} (hk : k < 32) : 2 ^ k < 4294967296 := Nat.pow_lt_pow_right (a := 2) (by decide) hk
end Go.Proofs.Ytifffjhhammeiaa.Vote
namespace Go.Proofs.Ytifffjhhammeiaa
end Go.Proofs.Ytifffjhhammeiaa
set_option linter.unusedVariables false
set_option linter.unusedSimpArgs false
namespace Go.Proofs.Ytifffjhhammeiaa.Vote
open Go.RowKit Go.Proofs.Ytifffjhhammeiaa Go.Proofs.Ytifffjhhammeiaa.Bv

theorem ret_int {a b : Int} (h : a = b) : Ending.returned (.int .i64 a) = .returned (.int .i64 b) := by rw [h]
theorem and255 (a : Nat) (h : a < 4294967296) : bits .and .u32 (a : Int) 255 = ((a % 256 : Nat) : Int) := by
 have h1 := (bits_nat .u32 32 (by decide) (fun n h0 h1 => by simp [IntKind.wrap, IntKind.signed, IntKind.bits]; omega) a 255 (by omega) (by omega)).1
 have e : a &&& 255 = a % 256 := Nat.and_two_pow_sub_one_eq_mod a 8
 rw [e] at h1
 exact h1
@[go_sem high] theorem fold_tab : (⟨((([0, 1, 1, 2, 1, 2, 2, 3, 1, 2, 2, 3, 2, 3, 3, 4, 1, 2, 2, 3, 2, 3, 3, 4, 2, 3, 3, 4, 3, 4, 4, 5, 1, 2, 2, 3, 2, 3, 3, 4, 2, 3, 3, 4, 3, 4, 4, 5, 2, 3, 3, 4, 3, 4, 4, 5, 3, 4, 4, 5, 4, 5, 5, 6] : List UInt8).append [1, 2, 2, 3, 2, 3, 3, 4, 2, 3, 3, 4, 3, 4, 4, 5, 2, 3, 3, 4, 3, 4, 4, 5, 3, 4, 4, 5, 4, 5, 5, 6, 2, 3, 3, 4, 3, 4, 4, 5, 3, 4, 4, 5, 4, 5, 5, 6, 3, 4, 4, 5, 4, 5, 5, 6, 4, 5, 5, 6, 5, 6, 6, 7]).append (([1, 2, 2, 3, 2, 3, 3, 4, 2, 3, 3, 4, 3, 4, 4, 5, 2, 3, 3, 4, 3, 4, 4, 5, 3, 4, 4, 5, 4, 5, 5, 6, 2, 3, 3, 4, 3, 4, 4, 5, 3, 4, 4, 5, 4, 5, 5, 6, 3, 4, 4, 5, 4, 5, 5, 6, 4, 5, 5, 6, 5, 6, 6, 7] : List UInt8).append [2, 3, 3, 4, 3, 4, 4, 5, 3, 4, 4, 5, 4, 5, 5, 6, 3, 4, 4, 5, 4, 5, 5, 6, 4, 5, 5, 6, 5, 6, 6, 7, 3, 4, 4, 5, 4, 5, 5, 6, 4, 5, 5, 6, 5, 6, 6, 7, 4, 5, 5, 6, 5, 6, 6, 7, 5, 6, 6, 7, 6, 7, 7, 8])).toArray⟩ : ByteArray) = Lib.pop8tab := by decide +kernel
theorem count32_any (n : Nat) (hn : n < 4294967296) (w : World) :
  Calls Try.prog 33 #[.int .u32 (n : Int)] w fun e w' => e = .returned (.int .i64 (size n : Int)) ∧ ∃ q, w' = w.drewN q := by
 have d1 : (n : Int) / 16777216 = ((n / 16777216 : Nat) : Int) := by omega
 have d2 : (n : Int) / 65536 = ((n / 65536 : Nat) : Int) := by omega
 have d3 : (n : Int) / 256 = ((n / 256 : Nat) : Int) := by omega
 have a2 := and255 (n / 65536) (by omega)
 have a3 := and255 (n / 256) (by omega)
 have a4 := and255 n hn
 have p1 := pop8_cnt (n / 16777216) (by omega)
 have p2 := pop8_cnt (n / 65536 % 256) (by omega)
 have p3 := pop8_cnt (n / 256 % 256) (by omega)
 have p4 := pop8_cnt (n % 256) (by omega)
 have i1 : (0 : Int) ≤ ((n / 16777216 : Nat) : Int) ∧ ((n / 16777216 : Nat) : Int) ≤ 255 := by omega
 have i2 : (0 : Int) ≤ ((n / 65536 % 256 : Nat) : Int) ∧ ((n / 65536 % 256 : Nat) : Int) ≤ 255 := by omega
 have i3 : (0 : Int) ≤ ((n / 256 % 256 : Nat) : Int) ∧ ((n / 256 % 256 : Nat) : Int) ≤ 255 := by omega
 have i4 : (0 : Int) ≤ ((n % 256 : Nat) : Int) ∧ ((n % 256 : Nat) : Int) ≤ 255 := by omega
 have c1 := cnt_le 8 (n / 16777216)
 have c2 := cnt_le 8 (n / 65536 % 256)
 have c3 := cnt_le 8 (n / 256 % 256)
 have c4 := cnt_le 8 (n % 256)
 rw [size_bytes n hn]
 generalize n / 16777216 = b1 at *
 generalize n / 65536 = q2 at *
 generalize n / 256 = q3 at *
 generalize q2 % 256 = b2 at *
 generalize q3 % 256 = b3 at *
 generalize hb4 : n % 256 = b4 at *
 obtain ⟨i10, i11⟩ := i1
 obtain ⟨i20, i21⟩ := i2
 obtain ⟨i30, i31⟩ := i3
 obtain ⟨i40, i41⟩ := i4
 go_enter Try.func33, Try.ntmps33
 go_wp2_with fail
 go_quiet (fail)
 go_wp2_with fail
 go_ret
 exact ⟨ret_int (by push_cast; rfl), nq, rfl⟩
def outIdx (t : Int) : List Nat → Nat → Int
 | [], _ => -1
 | x :: xs, i => if t ≤ (size x : Int) then (i : Int) else outIdx t xs (i + 1)
def Sets (w : World) (b o : Nat) (l : List Nat) : Prop := ∀ k, (h : k < l.length) → w.cell? ⟨b, o + k, none⟩ = some (.int .u32 ((l[k] : Nat) : Int)) ∧ l[k] < 4294967296
theorem Sets.later {w w' : World} {b o : Nat} {l : List Nat} (h : Sets w b o l) (hb : Below w.heap.size w w') : Sets w' b o l :=
 fun k hk => ⟨cell_later hb (h k hk).1, (h k hk).2⟩
end Go.Proofs.Ytifffjhhammeiaa.Vote
namespace Go.Proofs.Ytifffjhhammeiaa
section
open Go.RowKit
theorem hcVw {w : World} {cs : List Value} {a : Vow} (h : Vow.rep.has w cs a) : cs = a.cells := And.left (show cs = a.cells ∧ a.ok from h)
theorem hcSt {w : World} {cs : List Value} {a : Sst} (h : Sst.rep.has w cs a) : cs = a.cells := And.left (show cs = a.cells ∧ a.ok from h)
section
variable {P : Program} {E : List (Nat × Value)} {w : World} {d : Option Nat} {ty : TypeId} {pos : String} {af : Array Edge} {g : Option (Nat × Bool)} {x y : Operand} {t u : TypeId}
theorem cvS {src dst : TypeId} {k k' : IntKind} {i r : Int} (hr : ∀ w, (convert src dst (.int k i)).run P w = .ok (.int k' (k'.wrap i)) w) (h : k'.wrap i = r) (hx : ev E x = some (.int k i)) :
  Runs P E ⟨d, .convert src dst x, ty, pos, af, g⟩ w (.int k' r) w := λ n a ha => by
 subst h
 simp only [execOp, ha.ev hx, Sem.run_bind, hr w, Result.andThen_ok, Sem.run_pure]
theorem wUS {i : Int} (h : 0 ≤ i) (h2 : i < 18446744073709551616) : IntKind.u64.wrap i = i := by simp [IntKind.wrap, IntKind.signed, IntKind.bits]; omega
theorem shrS {i : Int} {k k' : IntKind} (hx : ev E x = some (.int k i)) (hy : ev E y = some (.int k' 1)) (hm : 1 ≤ k.bits) : Runs P E ⟨d, .binOp .shr t x y u, ty, pos, af, g⟩ w (.int k (i / 2)) w := run_bin hx hy (by rfl : binOp .shr t (.int k i) (.int k' 1) = Op.shift .shr k i k' 1) (by
 unfold Op.shift
 rw [if_neg (by omega)]
 show (pure (Value.int k (i.fdiv (2 ^ min (1 : Int).toNat k.bits))) : Sem Value).run _ _ = _
 rw [show (1 : Int).toNat = 1 from rfl, Nat.min_eq_left hm, Int.fdiv_eq_ediv_of_nonneg _ (by decide)]; rfl)
theorem shlS {m : Nat} {j : Int} {k' : IntKind} (hx : ev E x = some (.int .u32 1)) (hy : ev E y = some (.int k' j)) (hj : j = (m : Int)) (hm : m < 32) : Runs P E ⟨d, .binOp .shl t x y u, ty, pos, af, g⟩ w (.int .u32 ((2 ^ m : Nat) : Int)) w := run_bin hx hy (by rfl : binOp .shl t (.int .u32 1) (.int k' j) = Op.shift .shl .u32 1 k' j) (by
 subst hj
 unfold Op.shift
 rw [if_neg (by omega)]
 show (pure (Value.int .u32 (IntKind.u32.wrap (1 * 2 ^ min (m : Int).toNat 32))) : Sem Value).run _ _ = _
 have h1 : (2 : Nat) ^ m < 4294967296 := Vote.one_lt hm
 rw [Int.toNat_natCast, Nat.min_eq_left (by omega), Int.one_mul, show ((2 : Int) ^ m) = ((2 ^ m : Nat) : Int) by simp, Vote.wraps_u32 _ (Int.natCast_nonneg _) (Int.ofNat_lt.2 h1)]; rfl)
theorem orS {a b : Nat} (hx : ev E x = some (.int .u32 (a : Int))) (hy : ev E y = some (.int .u32 (b : Int))) (ha : a < 4294967296) (hb : b < 4294967296) : Runs P E ⟨d, .binOp .or t x y u, ty, pos, af, g⟩ w (.int .u32 ((a ||| b : Nat) : Int)) w :=
 run_bin hx hy (by rfl : binOp .or t (.int .u32 (a : Int)) (.int .u32 (b : Int)) = pure (.int .u32 (bits .or .u32 (a : Int) (b : Int)))) (by rw [Vote.or_num a b ha hb]; rfl)
end
theorem onesS (n : Nat) (hn : n < 4294967296) (w : World) : Calls Try.prog 33 #[.int .u32 (n : Int)] w λ e w' => e = .returned (.int .i64 (Vote.size n : Int)) ∧ Ext w w' :=
 (Vote.count32_any n hn w).mono λ e w' ⟨h1, q, h2⟩ => by subst h2; exact ⟨h1, below_drewN (Below.refl _ w) q⟩
theorem betV_t {b v : Vow} (h : b.ballot < v.ballot) : betV b v = v := if_pos h
theorem betV_f {b v : Vow} (h : ¬ b.ballot < v.ballot) : betV b v = b := if_neg h
theorem take_snocV {l : List Vow} {k : Nat} {x : Vow} (h : l[k]? = some x) (b : Vow) : (l.take (k + 1)).foldl betV b = betV ((l.take k).foldl betV b) x := by
 obtain ⟨hk, rfl⟩ := List.getElem?_eq_some_iff.1 h
 rw [List.take_succ_eq_append_getElem hk, List.foldl_append]; rfl
def foundT (T : List Rv) (B : Nat) (n : Int) : Bool := decide ((B : Int) < (T.length : Int)) && ((T.getD B default).b - n == 0)
theorem ballot_any (n : Int) (w : World) :
  Calls Try.prog 50 #[.int .i64 n] w (λ e w' => e = .returned (.bool (balB n)) ∧ Ext w w') := by
 refine calls_W (n := 9) Try.func50 rfl rfl rfl ?_
 refine sg <| va rfl <| nK <| sg <| vm rfl <| vL (bge rfl rfl) <| vm rfl <| vQ rfl rfl rfl rfl (λ hc => mv rfl) rfl <| vQ rfl rfl rfl rfl (λ hc => ble (gt hc rfl) rfl) rfl <| vL (pA rfl rfl rfl rfl) <| va rfl <| nK <| rt <| tR (.tmp rfl .nil) <| ?_
 exact ⟨rfl, (Ext.rf w)⟩
theorem prepare_any (v : Vow) (n : Int) (w : World) :
  Calls Try.prog 26 #[.agg #[.int .i64 v.promised, .int .i64 v.ballot, .int .i64 v.value], .int .i64 n] w (λ e w' => e = .returned (.tuple #[.agg #[.int .i64 ((prepV v n).promised), .int .i64 ((prepV v n).ballot), .int .i64 ((prepV v n).value)], .bool (prepK v n)]) ∧ Ext w w') := by
 refine calls_W (n := 19) Try.func26 rfl rfl rfl ?_
 refine sg <| bx rfl rfl rfl rfl λ w_1 b_2 x_3 l_4 B_5 => ?_
 have := x_3.size
 have z_1 := eT (Ext.rf w) x_3
 have q_7 := B_5.lt
 refine al rfl eF1 rfl rfl λ w_8 b_9 x_10 l_11 B_12 => ?_
 have := x_10.size
 have z_8 := eT z_1 x_10
 have q_14 := B_12.lt
 refine va rfl <| nK <| sq <| sg <| vm rfl <| ca eF2 rfl rfl ((ballot_any n _).mono ?_)
 rintro e w_15 ⟨rfl, x_16⟩
 refine ⟨_, rfl, ?_⟩
 have := x_16.size
 have z_15 := eT z_8 x_16
 refine vL (nt rfl) <| vm rfl <| vQ rfl rfl rfl rfl (λ hc => mv rfl) rfl <| vQ rfl rfl rfl rfl (λ hc => fa eF3 rfl) rfl <| ?_
 have B_5 := B_5.later (eT x_10 x_16)
 refine vQ rfl rfl rfl rfl (λ hc => ld (gt hc rfl) (B_5.one eF4 rfl)) rfl <| vQ rfl rfl rfl rfl (λ hc => ble (gt hc rfl) (gt hc rfl)) rfl <| vL (pO rfl rfl rfl rfl) <| nK <| ?_
 refine cb rfl (λ h_18 => ?_) (λ h_18 => ?_)
 ·have hk : prepK v n = false := by unfold prepK; rw [h_18]; rfl
  refine sg <| vL (ld rfl (B_5.all eF5 eF6)) <| ?_
  have B_12 := B_12.later x_16
  refine st (new := [.int .i64 v.promised, .int .i64 v.ballot, .int .i64 v.value]) rfl rfl B_12 rfl eF6 rfl rfl rfl λ w_19 m_20 B_12 => ?_
  have := m_20.size
  have z_19 := Ext.mod z_15 m_20 (ge1 (by omega))
  have := m_20.size
  refine va rfl <| nK <| rt <| tT <| tR (.cell rfl (B_12.all eF5 eF6) (.tmp rfl .nil)) <| ?_
  exact ⟨by unfold prepV; rw [hk]; rfl, z_19⟩
 ·have hk : prepK v n = true := by unfold prepK; rw [h_18]; rfl
  refine sK <| sg <| vm rfl <| vL (fa eF3 rfl) <| st (new := [.int .i64 n, .int .i64 v.ballot, .int .i64 v.value]) rfl rfl B_5 rfl eF7 rfl rfl rfl λ w_23 m_24 B_5 => ?_
  have := m_24.size
  have z_23 := Ext.mod z_15 m_24 (ge1 (by omega))
  have := m_24.size
  refine nK <| sg <| vL (ld rfl (B_5.all eF5 eF6)) <| ?_
  have B_12 := B_12.later x_16
  have B_12 := B_12.mod m_24 (nm1 (by omega))
  refine st (new := [.int .i64 n, .int .i64 v.ballot, .int .i64 v.value]) rfl rfl B_12 rfl eF6 rfl rfl rfl λ w_27 m_28 B_12 => ?_
  have := m_28.size
  have z_27 := Ext.mod z_23 m_28 (ge1 (by omega))
  have := m_28.size
  refine va rfl <| nK <| rt <| tR (.cell rfl (B_12.all eF5 eF6) (.tmp rfl .nil)) <| ?_
  exact ⟨by unfold prepV; rw [hk]; rfl, z_27⟩
theorem accept_any (v : Vow) (n x : Int) (w : World) :
  Calls Try.prog 27 #[.agg #[.int .i64 v.promised, .int .i64 v.ballot, .int .i64 v.value], .int .i64 n, .int .i64 x] w (λ e w' => e = .returned (.tuple #[.agg #[.int .i64 ((accV v n x).promised), .int .i64 ((accV v n x).ballot), .int .i64 ((accV v n x).value)], .bool (accK v n)]) ∧ Ext w w') := by
 refine calls_W (n := 22) Try.func27 rfl rfl rfl ?_
 refine sg <| bx rfl rfl rfl rfl λ w_1 b_2 x_3 l_4 B_5 => ?_
 have := x_3.size
 have z_1 := eT (Ext.rf w) x_3
 have q_7 := B_5.lt
 refine al rfl eF1 rfl rfl λ w_8 b_9 x_10 l_11 B_12 => ?_
 have := x_10.size
 have z_8 := eT z_1 x_10
 have q_14 := B_12.lt
 refine va rfl <| nK <| sq <| sg <| vm rfl <| ca eF2 rfl rfl ((ballot_any n _).mono ?_)
 rintro e w_15 ⟨rfl, x_16⟩
 refine ⟨_, rfl, ?_⟩
 have := x_16.size
 have z_15 := eT z_8 x_16
 refine vL (nt rfl) <| vm rfl <| vQ rfl rfl rfl rfl (λ hc => mv rfl) rfl <| vQ rfl rfl rfl rfl (λ hc => fa eF3 rfl) rfl <| ?_
 have B_5 := B_5.later (eT x_10 x_16)
 refine vQ rfl rfl rfl rfl (λ hc => ld (gt hc rfl) (B_5.one eF4 rfl)) rfl <| vQ rfl rfl rfl rfl (λ hc => blt (gt hc rfl) (gt hc rfl)) rfl <| vL (pO rfl rfl rfl rfl) <| nK <| ?_
 refine cb rfl (λ h_18 => ?_) (λ h_18 => ?_)
 ·have hk : accK v n = false := by unfold accK; rw [h_18]; rfl
  refine sg <| vL (ld rfl (B_5.all eF5 eF6)) <| ?_
  have B_12 := B_12.later x_16
  refine st (new := [.int .i64 v.promised, .int .i64 v.ballot, .int .i64 v.value]) rfl rfl B_12 rfl eF6 rfl rfl rfl λ w_19 m_20 B_12 => ?_
  have := m_20.size
  have z_19 := Ext.mod z_15 m_20 (ge1 (by omega))
  have := m_20.size
  refine va rfl <| nK <| rt <| tT <| tR (.cell rfl (B_12.all eF5 eF6) (.tmp rfl .nil)) <| ?_
  exact ⟨by unfold accV; rw [hk]; rfl, z_19⟩
 ·have hk : accK v n = true := by unfold accK; rw [h_18]; rfl
  refine sK <| sg <| vm rfl <| vm rfl <| vm rfl <| vL (v := .agg #[.int .i64 n, .int .i64 n, .int .i64 x]) (bd rfl (by kernel_rfl)) <| ?_
  have B_12 := B_12.later x_16
  refine st (new := [.int .i64 n, .int .i64 n, .int .i64 x]) rfl rfl B_12 rfl eF6 rfl rfl rfl λ w_23 m_24 B_12 => ?_
  have := m_24.size
  have z_23 := Ext.mod z_15 m_24 (ge1 (by omega))
  have := m_24.size
  refine va rfl <| nK <| rt <| tR (.cell rfl (B_12.all eF5 eF6) (.tmp rfl .nil)) <| ?_
  exact ⟨by unfold accV; rw [hk]; rfl, z_23⟩
theorem choose_any (l : List Vow) (x : Int) (A : Option Addr) (c : Nat) (w : World) (hl : Vow.rep.SHas 24 w A c l) :
  Calls Try.prog 70 #[.slice A l.length c, .int .i64 x] w (λ e w' => e = .returned (.int .i64 (chooseV l x)) ∧ Ext w w') := by
 have hll := hl.len_le
 refine calls_W (n := 34) Try.func70 rfl rfl rfl ?_
 refine sg <| va rfl <| nK <| sq <| sg <| vm rfl <| vL (ln Try.underlying59 rfl) <| vL (beq rfl rfl) <| nK <| ?_
 refine ceq rfl (λ h_1 => ?_) (λ h_1 => ?_)
 ·have h0 : (l.length : Int) = 0 := by simpa using h_1
  refine sg <| vm rfl <| va rfl <| nK <| rt <| tT <| tR (.tmp rfl .nil) <| ?_
  exact ⟨by unfold chooseV; rw [if_pos (by omega)]; rfl, (Ext.rf w)⟩
 ·have h0 : (l.length : Int) ≠ 0 := by simpa using h_1
  refine sK <| sg <| vm rfl <| vL (iA 0 Try.underlying59 eF6 rfl rfl ((hl.keep (Ext.rf w)).adr (zl 0 (by omega))) rfl (by omega)) <| vL (ld rfl (Rep.SHas.elt hcVw ((hl.keep (Ext.rf w)).adh (zl 0 (by omega))) (get_d (u := default) (by omega)) eF5 eF6)) <| al rfl eF1 rfl rfl λ w_2 b_3 x_4 l_5 B_6 => ?_
  have := x_4.size
  have z_2 := eT (Ext.rf w) x_4
  have q_8 := B_6.lt
  refine st (new := [.int .i64 ((l.getD 0 default).promised), .int .i64 ((l.getD 0 default).ballot), .int .i64 ((l.getD 0 default).value)]) rfl rfl B_6 rfl eF6 rfl rfl rfl λ w_9 m_10 B_6 => ?_
  have := m_10.size
  have z_9 := Ext.mod z_2 m_10 (ge1 (by omega))
  have := m_10.size
  refine nK <| sq <| sg <| vm rfl <| vL (ln Try.underlying59 rfl) <| vm rfl <| nK <| bk <| ?_
  refine lp (λ mI EI wI => ∃ k : Nat, EI = [(1, .int .i64 x), (4, .int .i64 0), (5, .pointer (some ⟨b_3, 0, none⟩)), (15, .slice A l.length c), (16, .int .i64 (l.length : Int)), (17, .int .i64 (k : Int))] ∧ mI = l.length - k ∧ Ext w wI ∧ Blk wI b_3 [.int .i64 ((((l.take k).foldl betV (l.getD 0 default))).promised), .int .i64 ((((l.take k).foldl betV (l.getD 0 default))).ballot), .int .i64 ((((l.take k).foldl betV (l.getD 0 default))).value)] 52 (0, 0) ∧ (k ≤ l.length)) _ _ ⟨0, rfl, rfl, z_9, B_6, by omega⟩ (.cons rfl (.cons rfl (.cons rfl (.cons rfl (.cons rfl (.cons (loI rfl (by first | omega | rfl | (simp <;> omega))) .nil)))))) ?_
  rintro m_14 E_15 w_13 ⟨k, rfl, rfl, z_13, HBb, hk⟩
  have := z_13.size
  have q_17 := HBb.lt
  refine sg <| vL (blt rfl rfl) <| nK <| sq <| ?_
  refine clt rfl (λ h_18 => ?_) (λ h_18 => ?_)
  ·obtain ⟨y, hy⟩ : ∃ y, l[k]? = some y := ⟨_, List.getElem?_eq_getElem (by omega)⟩
   refine sK <| sq <| bk <| sg <| vL (iA k Try.underlying59 eF6 rfl rfl ((hl.keep z_13).adr (zl k (by omega))) rfl (by omega)) <| vL (ld rfl (Rep.SHas.elt hcVw ((hl.keep z_13).adh (zl k (by omega))) hy eF5 eF6)) <| al rfl eF1 rfl rfl λ w_19 b_20 x_21 l_22 B_23 => ?_
   have := x_21.size
   have z_19 := eT z_13 x_21
   have q_25 := B_23.lt
   refine st (new := [.int .i64 y.promised, .int .i64 y.ballot, .int .i64 y.value]) rfl rfl B_23 rfl eF6 rfl rfl rfl λ w_26 m_27 B_23 => ?_
   have := m_27.size
   have z_26 := Ext.mod z_19 m_27 (ge1 (by omega))
   have := m_27.size
   refine nK <| sg <| vL (fa eF8 rfl) <| vL (ld rfl (B_23.one eF4 rfl)) <| vL (fa eF8 rfl) <| ?_
   have HBb := HBb.later x_21
   have HBb := HBb.mod m_27 (nm1 (by omega))
   refine vL (ld rfl (HBb.one eF4 rfl)) <| vL (bgt rfl rfl) <| nK <| ?_
   refine clt rfl (λ h_30 => ?_) (λ h_30 => ?_)
   ·have hb := h_30
    refine rg <| vL (ld rfl (B_23.all eF5 eF6)) <| st (new := [.int .i64 y.promised, .int .i64 y.ballot, .int .i64 y.value]) rfl rfl HBb rfl eF6 rfl rfl rfl λ w_31 m_32 HBb => ?_
    have := m_32.size
    have z_31 := Ext.mod z_26 m_32 (ge1 (by omega))
    have := m_32.size
    refine nl <| nB <| nT <| rg <| vL (bad rfl rfl (inI (by omega))) <| vm rfl <| nl <| ?_
    exact nI _ _ ⟨k + 1, rfl, rfl, z_31, (by rw [take_snocV hy]; rw [betV_t hb]; exact HBb), by omega⟩ (by omega) (.cons rfl (.cons rfl (.cons rfl (.cons rfl (.cons rfl (.cons (loI rfl (by first | omega | rfl | (simp <;> omega))) .nil))))))
   ·have hb := h_30
    refine sk <| nB <| nT <| rg <| vL (bad rfl rfl (inI (by omega))) <| vm rfl <| nl <| ?_
    exact nI _ _ ⟨k + 1, rfl, rfl, z_26, (by rw [take_snocV hy]; rw [betV_f hb]; exact HBb), by omega⟩ (by omega) (.cons rfl (.cons rfl (.cons rfl (.cons rfl (.cons rfl (.cons (loI rfl (by first | omega | rfl | (simp <;> omega))) .nil))))))
  ·have ek : k = l.length := by omega
   refine xt <| xT <| xK <| xB <| nT <| sq <| sg <| vL (fa eF8 rfl) <| vL (ld rfl (HBb.one eF4 rfl)) <| vL (beq rfl rfl) <| nK <| ?_
   refine ceq rfl (λ h_35 => ?_) (λ h_35 => ?_)
   ·have hbe : ((l.take k).foldl betV (l.getD 0 default)).ballot = 0 := by simpa using h_35
    refine sg <| vm rfl <| va rfl <| nK <| rt <| tT <| tR (.tmp rfl .nil) <| ?_
    exact ⟨by unfold chooseV bestV; rw [if_neg (by omega)]; rw [ek, List.take_length] at hbe; rw [if_pos hbe]; rfl, z_13⟩
   ·have hbe : ((l.take k).foldl betV (l.getD 0 default)).ballot ≠ 0 := by simpa using h_35
    refine sK <| sg <| vL (fa eF9 rfl) <| vL (ld rfl (HBb.one eF4 rfl)) <| va rfl <| nK <| rt <| tR (.tmp rfl .nil) <| ?_
    exact ⟨by unfold chooseV bestV; rw [if_neg (by omega)]; rw [ek, List.take_length] at hbe; rw [if_neg hbe]; rw [ek, List.take_length]; rfl, z_13⟩
theorem cmpR_any (t : Rv) (n : Int) (w : World) (h : -1000 ≤ t.b - n ∧ t.b - n ≤ 1000) :
  Calls Try.prog 94 #[.agg #[.int .i64 t.b, .int .u32 (t.p : Int), .slice t.ha t.hn t.hc, .bool t.asked, .int .i64 t.v, .int .u32 (t.q : Int)], .int .i64 n] w (λ e w' => e = .returned (.int .i64 (t.b - n)) ∧ Ext w w') := by
 refine calls_W (n := 9) Try.func94 rfl rfl rfl ?_
 refine sg <| bx rfl rfl rfl rfl λ w_1 b_2 x_3 l_4 B_5 => ?_
 have := x_3.size
 have z_1 := eT (Ext.rf w) x_3
 have q_7 := B_5.lt
 refine va rfl <| nK <| sg <| vL (fa eF10 rfl) <| vL (ld rfl (B_5.one eF4 rfl)) <| vm rfl <| vL (bsu rfl rfl (inI (by omega))) <| va rfl <| nK <| rt <| tR (.tmp rfl .nil) <| ?_
 exact ⟨rfl, z_1⟩
theorem search_any (T : List Rv) (n : Int) (B : Nat) (A : Option Addr) (c : Nat) (w : World) (hT : Rv.rep.SHas 64 w A c T) (hdf : ∀ i, i < T.length → -1000 ≤ (T.getD i default).b - n ∧ (T.getD i default).b - n ≤ 1000) (hBl : B ≤ T.length) (hB : ∀ i, i < T.length → (i < B ↔ (T.getD i default).b < n)) (hlen : T.length ≤ 1000000) :
  Calls Try.prog 93 #[.slice A T.length c, .int .i64 n, .func (.func 94) #[] #[]] w (λ e w' => e = .returned (.tuple #[.int .i64 (B : Int), .bool (foundT T B n)]) ∧ Ext w w') := by
 refine calls_W (n := 49) Try.func93 rfl rfl rfl ?_
 refine sg <| va rfl <| va rfl <| nK <| sg <| vm rfl <| vL (ln Try.underlying60 rfl) <| va rfl <| nK <| sg <| vm rfl <| va rfl <| va rfl <| nK <| sq <| bk <| ?_
 refine lp (λ mI EI wI => ∃ i : Nat, ∃ j : Nat, EI = [(0, .slice A T.length c), (1, .int .i64 n), (2, .func (.func 94) #[] #[]), (6, .int .i64 0), (7, .bool false), (8, .int .i64 (T.length : Int)), (9, .int .i64 (i : Int)), (10, .int .i64 (j : Int))] ∧ mI = j - i ∧ Ext w wI ∧ (i ≤ B ∧ B ≤ j ∧ j ≤ T.length)) _ _ ⟨0, T.length, rfl, rfl, (Ext.rf w), by omega⟩ (.cons rfl (.cons rfl (.cons rfl (.cons rfl (.cons rfl (.cons rfl (.cons (loI rfl (by first | omega | rfl | (simp <;> omega))) (sba rfl)))))))) ?_
 rintro m_2 E_3 w_1 ⟨i, j, rfl, rfl, z_1, hij⟩
 have := z_1.size
 refine sq <| sg <| vm rfl <| vm rfl <| vL (blt rfl rfl) <| nK <| ?_
 refine clt rfl (λ h_5 => ?_) (λ h_5 => ?_)
 ·refine sK <| bk <| sg <| vm rfl <| vm rfl <| vL (bad rfl rfl (inI (by omega))) <| vL (cvS (r := ((i : Int) + (j : Int))) (λ _ => by kernel_rfl) (wUS (by omega) (by omega)) rfl) <| vL (shrS (k := .u64) rfl rfl (by decide)) <| vL (cvS (r := (((i : Int) + (j : Int)) / 2)) (λ _ => by kernel_rfl) (inI (by omega)) rfl) <| va rfl <| nK <| sg <| vm rfl <| vm rfl <| vm rfl <| vL (iA ((((i : Int) + (j : Int)) / 2).toNat) Try.underlying60 eF0 rfl rfl ((hT.keep z_1).adr (zl ((((i : Int) + (j : Int)) / 2).toNat) (by omega))) (by omega) (by omega)) <| vL (ld rfl (Rep.SHas.elt hcRv ((hT.keep z_1).adh (zl ((((i : Int) + (j : Int)) / 2).toNat) (by omega))) (get_d (l := T) (u := default) (by omega)) eF11 eF0)) <| vm rfl <| cv eF12 rfl rfl rfl ((cmpR_any (T.getD ((((i : Int) + (j : Int)) / 2).toNat) default) n _ (hdf _ (by omega))).mono ?_)
  rintro e w_6 ⟨rfl, x_7⟩
  refine ⟨_, rfl, ?_⟩
  have := x_7.size
  have z_6 := eT z_1 x_7
  refine vL (blt rfl rfl) <| nK <| ?_
  refine clt rfl (λ h_9 => ?_) (λ h_9 => ?_)
  ·have hm := hB (((i : Int) + (j : Int)) / 2).toNat (by omega)
   refine rg <| vm rfl <| vL (bad rfl rfl (inI (by omega))) <| va rfl <| nl <| nB <| ?_
   exact nI _ _ ⟨(((i : Int) + (j : Int)) / 2).toNat + 1, j, rfl, rfl, z_6, by omega⟩ (by omega) (.cons rfl (.cons rfl (.cons rfl (.cons rfl (.cons rfl (.cons rfl (.cons (loI rfl (by first | omega | rfl | (simp <;> omega))) (sba rfl))))))))
  ·have hm := hB (((i : Int) + (j : Int)) / 2).toNat (by omega)
   refine rg <| vm rfl <| va rfl <| nl <| nB <| ?_
   exact nI _ _ ⟨i, (((i : Int) + (j : Int)) / 2).toNat, rfl, rfl, z_6, by omega⟩ (by omega) (.cons rfl (.cons rfl (.cons rfl (.cons rfl (.cons rfl (.cons rfl (.cons rfl (.cons (loI rfl (by first | omega | rfl | (simp <;> omega))) .nil))))))))
 ·have eij : i = B ∧ j = B := by omega
  refine xt <| xT <| xK <| xB <| nT <| sq <| ?_
  rcases Nat.lt_or_ge i T.length with hil | hil
  ·have ki : decide ((i : Int) < (T.length : Int)) = true := decide_eq_true (by omega)
   refine rg <| vm rfl <| vm rfl <| vm rfl <| vL (blt rfl rfl) <| vm (evb rfl ki) <| ug rfl rfl rfl <| vm rfl <| ug rfl rfl rfl <| vm rfl <| ug rfl rfl rfl <| vm rfl <| ug rfl rfl rfl <| vL (iA i Try.underlying60 eF0 rfl rfl ((hT.keep z_1).adr (zl i (by omega))) rfl (by omega)) <| ug rfl rfl rfl <| vL (ld rfl (Rep.SHas.elt hcRv ((hT.keep z_1).adh (zl i (by omega))) (get_d (l := T) (u := default) (by omega)) eF11 eF0)) <| ug rfl rfl rfl <| vm rfl <| ug rfl rfl rfl <| cv eF12 rfl rfl rfl ((cmpR_any (T.getD i default) n _ (hdf _ (by omega))).mono ?_)
   rintro e w_10 ⟨rfl, x_11⟩
   refine ⟨_, rfl, ?_⟩
   have := x_11.size
   have z_10 := eT z_1 x_11
   refine ug rfl rfl rfl <| vL (beq rfl rfl) <| vL (pkT rfl rfl) <| va rfl <| va rfl <| nK <| rt <| tR (.tmp rfl (.tmp rfl .nil)) <| ?_
   have hf : foundT T B n = (((T.getD i default).b - n) == 0) := by rw [← eij.1]; unfold foundT; rw [ki]; rw [Bool.true_and]
   exact ⟨by rw [hf, ← eij.1]; rfl, z_10⟩
  ·have ki : decide ((i : Int) < (T.length : Int)) = false := decide_eq_false (by omega)
   refine rg <| vm rfl <| vm rfl <| vm rfl <| vL (blt rfl rfl) <| vm (evb rfl ki) <| vQ (v := undef) rfl rfl rfl rfl (λ hc => nomatch hc) rfl <| vQ (v := undef) rfl rfl rfl rfl (λ hc => nomatch hc) rfl <| vQ (v := undef) rfl rfl rfl rfl (λ hc => nomatch hc) rfl <| vQ (v := undef) rfl rfl rfl rfl (λ hc => nomatch hc) rfl <| vQ (v := undef) rfl rfl rfl rfl (λ hc => nomatch hc) rfl <| vQ (v := undef) rfl rfl rfl rfl (λ hc => nomatch hc) rfl <| vQ (v := undef) rfl rfl rfl rfl (λ hc => nomatch hc) rfl <| vQ (v := undef) rfl rfl rfl rfl (λ hc => nomatch hc) rfl <| vL (pkF rfl rfl) <| va rfl <| va rfl <| nK <| rt <| tR (.tmp rfl (.tmp rfl .nil)) <| ?_
   have hf : foundT T B n = false := by rw [← eij.1]; unfold foundT; rw [ki]; rfl
   exact ⟨by rw [hf, ← eij.1]; rfl, z_1⟩
end
section
open Go.RowKit
theorem insS_any (w0 : World) (A : Option Addr) (c i vb : Nat) (l : List Rv) (n : Int) (w : World) (hx0 : Ext w0 w) (hO : Rv.rep.SOwn 69 64 w w0.heap.size (Rep.blkOf A) A c l) (hi : i ≤ l.length) (hl : l.length ≤ 1000000) (hx : okI n)
  (hV : Blk w vb (mkRv (newR n) none 0).cells 69 (0, 0)) (hvb : ∀ q ∈ Rep.blkOf A, q = vb → False) :
  Calls Try.prog 95 #[.slice A l.length c, .int .i64 (i : Int), .slice (some ⟨vb, 0, none⟩) 1 1] w λ e w' => ∃ A' c', e = .returned (.slice A' (insL l i (mkRv (newR n) none 0)).length c') ∧
   Rv.rep.SOwn 69 64 w' w0.heap.size (Rep.blkOf A') A' c' (insL l i (mkRv (newR n) none 0)) ∧ (∀ q ∈ Rep.blkOf A', q ∈ Rep.blkOf A ∨ w.heap.size ≤ q) ∧ Mod (Rep.blkOf A) w w' := by
 rw [insL_len hi]
 exact insR_any w0 A c i vb l _ w hx0 hO hi hl ⟨hx, okI_iff.2 (by show (-9223372036854775808 : Int) ≤ 0 ∧ (0 : Int) < 9223372036854775808; decide), by show (0 : Nat) < 4294967296; decide, by show (0 : Nat) < 4294967296; decide⟩ hV hvb
theorem Hd.row {X : Nat → Prop} {w : World} {Z i : Nat} {T : List Rv} {L : List Rnd} (h : Hd X w Z T L) (hX : ¬ X i) (hi : i < L.length) : (T.getD i default).b = (L.getD i default).b := by
 obtain ⟨A, c, h1, _⟩ := h.own i _ hX (List.getElem?_eq_getElem hi)
 rw [List.getD_eq_getElem?_getD, h1, List.getD_eq_getElem?_getD, List.getElem?_eq_getElem hi]; rfl
theorem Hd.lt {w : World} {Z : Nat} {T : List Rv} {L : List Rnd} (h : Hd (λ _ => False) w Z T L) : ∀ t ∈ T, ∀ q ∈ Rep.blkOf t.ha, Z ≤ q ∧ q < w.heap.size := by
 intro t ht q hq
 obtain ⟨j, hj⟩ := List.mem_iff_getElem?.1 ht
 have hl : j < L.length := by rw [← h.len]; exact (List.getElem?_eq_some_iff.1 hj).1
 obtain ⟨A, c, h1, h2⟩ := h.own j _ id (List.getElem?_eq_getElem hl)
 rw [hj] at h1; obtain rfl := Option.some.inj h1
 exact Rep.SOwn.lt h2 q hq
section
variable {w : World} {Z : Nat} {T : List Rv} {L : List Rnd} {n : Int} (h : Hd (λ _ => False) w Z T L) (hs : RSort L) (hb : ∀ r ∈ L, 1 ≤ r.b ∧ r.b ≤ 50) (hn : 1 ≤ n ∧ n ≤ 50)
include h
include hb hn in
theorem search_df : ∀ i, i < T.length → -1000 ≤ (T.getD i default).b - n ∧ (T.getD i default).b - n ≤ 1000 := λ i hi => by
 rw [h.len] at hi
 rw [h.row id hi, List.getD_eq_getElem?_getD, List.getElem?_eq_getElem hi, Option.getD_some]
 have := hb _ (List.getElem_mem hi); omega
include hs in
theorem search_B : ∀ i, i < T.length → (i < binR L n ↔ (T.getD i default).b < n) := λ i hi => by
 rw [h.len] at hi
 rw [h.row id hi, List.getD_eq_getElem?_getD, List.getElem?_eq_getElem hi, Option.getD_some]
 exact binR_spec hs i _ (List.getElem?_eq_getElem hi)
include hs in
theorem found_has : foundT T (binR L n) n = hasR L n := by
 rw [Bool.eq_iff_iff, hasR_at hs]
 unfold foundT; rw [Bool.and_eq_true, decide_eq_true_eq, beq_iff_eq]
 constructor
 ·rintro ⟨h1, h2⟩
  have hi : binR L n < L.length := by rw [← h.len]; omega
  rw [h.row id hi, List.getD_eq_getElem?_getD, List.getElem?_eq_getElem hi, Option.getD_some] at h2
  exact ⟨_, List.getElem?_eq_getElem hi, by omega⟩
 ·rintro ⟨x, h1, h2⟩
  have hi := (List.getElem?_eq_some_iff.1 h1).1
  rw [h.row id hi, List.getD_eq_getElem?_getD, h1, Option.getD_some, h.len]; omega
end
theorem hb_ins {T : List Rv} {V R R' : List Nat} {b N i : Nat} {n : Int} (h : ∀ t ∈ T, ∀ q ∈ Rep.blkOf t.ha, q ≠ b ∧ q ∉ V ∧ q ∉ R) (hlt : ∀ t ∈ T, ∀ q ∈ Rep.blkOf t.ha, q < N) (hR : ∀ q ∈ R', q ∈ R ∨ N ≤ q) :
  ∀ t ∈ insL T i (mkRv (newR n) none 0), ∀ q ∈ Rep.blkOf t.ha, q ≠ b ∧ q ∉ V ∧ q ∉ R' := λ t ht q hq => by
 rcases insL_mem.1 ht with rfl | ht
 ·simp [mkRv, Rep.blkOf] at hq
 ·obtain ⟨h1, h2, h3⟩ := h t ht q hq
  exact ⟨h1, h2, λ hq' => (hR q hq').elim h3 λ h4 => by have := hlt t ht q hq; omega⟩
theorem hasR_lt {l : List Rnd} {n : Int} (hs : RSort l) (h : hasR l n = true) : binR l n < l.length := by
 obtain ⟨x, h1, _⟩ := (hasR_at hs).1 h; exact (List.getElem?_eq_some_iff.1 h1).1
theorem round_any (w0 : World) (b : Nat) (a : SyAt) (C : Cou) (n : Int) (w : World) (hx0 : Ext w0 w) (hs : SySt w w0.heap.size b a C) (hg : RSort C.rounds) (hgb : ∀ r ∈ C.rounds, 1 ≤ r.b ∧ r.b ≤ 50) (hn : 1 ≤ n ∧ n ≤ 50) (hl : C.rounds.length ≤ 1000) :
  Calls Try.prog 68 #[.pointer (some ⟨b, 0, none⟩), .int .i64 n] w (λ e w' => ∃ R r T, e = .returned (.pointer (some ⟨bA R, oA R + binR C.rounds n * 6, none⟩)) ∧ SySt w' w0.heap.size b ⟨a.V, a.v, R, r, T⟩ (C.ens n) ∧ Mod (b :: Rep.blkOf a.R) w w') := by
 have hx0s := hx0.size
 have HB := hs.blk
 have hZb := hs.le
 have qB := HB.lt
 have HV := hs.V
 have HR := hs.R
 have HH := hs.H
 have uV := λ q hq => (HV.lt q hq).2
 have lV := λ q hq => (HV.lt q hq).1
 have uR := λ q hq => (HR.lt q hq).2
 have lR := λ q hq => (HR.lt q hq).1
 have hb := hs.hb
 have hlt := λ t ht q hq => (HH.lt t ht q hq).2
 have hHl := HH.len
 have cV := HV.1
 have hVl := HV.has.len_le
 obtain ⟨B, hBe⟩ : ∃ B, B = binR C.rounds n := ⟨_, rfl⟩
 have hBl : B ≤ a.T.length := by rw [hBe, hHl]; exact binR_le _ _
 refine calls_W (n := 40) Try.func68 rfl rfl rfl ?_
 refine sg <| va rfl <| nK <| sg <| vm rfl <| vL (nc rfl) <| vL (fa eF13 rfl) <| vL (fa eF14 rfl) <| vL (ld rfl (HB.one eF15 rfl)) <| vm rfl <| ca eF16 rfl rfl ((search_any a.T n B _ _ _ HR.has (search_df HH hgb hn) (by rw [hBe, HH.len]; exact binR_le _ _) (by rw [hBe]; exact search_B HH hg) (by rw [HH.len]; omega)).mono ?_)
 rintro e w_1 ⟨rfl, x_2⟩
 refine ⟨_, rfl, ?_⟩
 have := x_2.size
 have z_1 := (Mod.rf (b :: Rep.blkOf a.R) w).trans (Mod.of_ext x_2)
 refine vm rfl <| vL (ex rfl rfl) <| vL (ex rfl rfl) <| va rfl <| va rfl <| nK <| sq <| sg <| vm rfl <| vL (nt rfl) <| nK <| ?_
 refine cb rfl (λ h_4 => ?_) (λ h_4 => ?_)
 ·have hfd : hasR C.rounds n = false := by rw [← found_has HH hg, ← hBe]; simpa using h_4
  refine rg <| vm rfl <| vm rfl <| vL (nc rfl) <| vL (fa eF13 rfl) <| vL (fa eF14 rfl) <| ?_
  have HB := HB.later x_2
  refine vL (ld rfl (HB.one eF15 rfl)) <| vm rfl <| vm rfl <| vL (v := .agg #[.int .i64 n, .int .u32 0, .slice none 0 0, .bool false, .int .i64 0, .int .u32 0]) (bd rfl (by kernel_rfl)) <| bs (e := 69) (cs := [.int .i64 n, .int .u32 0, .slice none 0 0, .bool false, .int .i64 0, .int .u32 0]) rfl (λ _ => by kernel_rfl) rfl λ w_5 b_6 x_7 l_8 B_9 => ?_
  have := x_7.size
  have z_5 := z_1.trans (Mod.of_ext x_7)
  have q_11 := B_9.lt
  have HR := HR.later (eT x_2 x_7)
  refine ca eF17 rfl rfl ((insS_any w0 _ _ B b_6 a.T n _ (Ext.mod hx0 z_5 λ q hq => (List.mem_cons.1 hq).elim (λ e => by rw [e]; exact hZb) (lR q)) HR hBl (by omega) (okI_iff.2 (by omega)) B_9 (λ q hq hb_ => by (have := uR q hq; omega))).mono ?_)
  rintro e w_14 ⟨Ai, ci, rfl, HI, gI, m_13⟩
  refine ⟨_, rfl, ?_⟩
  have := m_13.size
  have z_14 := z_5.md m_13 (λ q hq => .inl (List.mem_cons_of_mem _ hq))
  have u_16 := λ q hq => (HI.lt q hq).2
  refine vL (nc rfl) <| vL (fa eF13 rfl) <| vL (fa eF14 rfl) <| ?_
  have HB := HB.later x_7
  have HB := HB.mod m_13 (λ hq => hs.bR _ hq rfl)
  refine st (new := [.slice a.V C.vows.length a.v, .slice Ai ((insL a.T B (mkRv (newR n) none 0)).length) ci]) rfl rfl HB rfl eF18 rfl rfl rfl λ w_17 m_18 HB => ?_
  have := m_18.size
  have z_17 := z_14.md m_18 (λ q hq => .inl (by rw [List.mem_singleton.1 hq]; exact List.mem_cons_self))
  have := m_18.size
  refine nK <| sg <| vm rfl <| vL (nc rfl) <| vL (fa eF13 rfl) <| vL (fa eF14 rfl) <| vL (ld rfl (HB.one eF15 rfl)) <| vm rfl <| ?_
  have HI := HI.mod m_18 (λ q hq h => by have hb := List.mem_singleton.1 h; exfalso; (exact Or.elim (gI q hq) (λ k_21 => by (exact hs.bR q k_21 hb)) (λ k_21 => by omega)))
  refine vL (iA B Try.underlying60 eF0 rfl rfl (HI.has.adr (zl B (by rw [insL_len hBl]; omega))) rfl (by rw [insL_len hBl]; omega)) <| va rfl <| nK <| rt <| tR (.tmp rfl .nil) <| ?_
  have HV := HV.later (eT x_2 x_7)
  have HV := HV.mod m_13 (λ q hq h => by exfalso; (exact hs.VR q h hq))
  have HV := HV.mod m_18 (λ q hq h => by have hb := List.mem_singleton.1 h; exfalso; (exact hs.bV q hq hb))
  have HH := HH.later (eT x_2 x_7)
  have HH := HH.mod m_13 (λ j t _ hj q hq => (hb t (List.mem_of_getElem? hj) q hq).2.2)
  have HH := HH.mod m_18 (λ j t _ hj q hq h => (hb t (List.mem_of_getElem? hj) q hq).1 (List.mem_singleton.1 h))
  have hEn : C.ens n = ⟨C.vows, insL C.rounds B (newR n)⟩ := by unfold Cou.ens ensR; rw [hfd, hBe]; rfl
  exact ⟨Ai, ci, insL a.T B (mkRv (newR n) none 0), by rw [← hBe]; rfl, by rw [hEn]; exact ⟨HB, hZb, HV, HI, (Hd.ins HH (by rw [hBe]; exact binR_le _ _) n), (λ q h1 h2 => by (exact hs.bV q h1 h2)), (λ q h1 h2 => by (exact Or.elim (gI q h1) (λ k_22 => by (exact hs.bR q k_22 h2)) (λ k_22 => by omega))), (λ q h1 h2 => by (exact Or.elim (gI q h1) (λ k_23 => by (exact hs.VR q k_23 h2)) (λ k_23 => by (have := uV q h2; omega)))), (hb_ins hb (λ t ht q hq => Nat.lt_of_lt_of_le (hlt t ht q hq) (by omega)) gI)⟩, z_17⟩
 ·have hfd : hasR C.rounds n = true := by rw [← found_has HH hg, ← hBe]; simpa using h_4
  refine sK <| sg <| vm rfl <| vL (nc rfl) <| vL (fa eF13 rfl) <| vL (fa eF14 rfl) <| ?_
  have HB := HB.later x_2
  refine vL (ld rfl (HB.one eF15 rfl)) <| vm rfl <| ?_
  have HR := HR.later x_2
  refine vL (iA B Try.underlying60 eF0 rfl rfl (HR.has.adr (zl B (by have h_ := hasR_lt hg hfd; rw [hHl, hBe]; exact h_))) rfl (by have h_ := hasR_lt hg hfd; rw [hHl, hBe]; exact h_)) <| va rfl <| nK <| rt <| tR (.tmp rfl .nil) <| ?_
  have HV := HV.later x_2
  have HH := HH.later x_2
  have hEn : C.ens n = C := by unfold Cou.ens ensR; rw [hfd]; rfl
  exact ⟨a.R, a.r, a.T, by rw [← hBe]; rfl, by rw [hEn]; exact ⟨HB, hZb, HV, HR, HH, (λ q h1 h2 => by (exact hs.bV q h1 h2)), (λ q h1 h2 => by (exact hs.bR q h1 h2)), (λ q h1 h2 => by (exact hs.VR q h1 h2)), hb⟩, z_1⟩
end
section
open Go.RowKit
theorem rsort_map {l m : List Rnd} (h : l.map (·.b) = m.map (·.b)) (hl : RSort l) : RSort m := by
 have : (m.map (·.b)).Pairwise (· < ·) := by rw [← h]; exact List.pairwise_map.2 hl
 exact List.pairwise_map.1 this
theorem ensR_mem {l : List Rnd} {n : Int} {x : Rnd} (h : x ∈ ensR l n) : x = newR n ∨ x ∈ l := by
 unfold ensR at h; split at h
 ·exact .inr h
 ·exact insL_mem.1 h
theorem mem_ensR {l : List Rnd} {n : Int} {x : Rnd} (h : x ∈ l) : x ∈ ensR l n := by
 unfold ensR; split
 ·exact h
 ·exact insL_mem.2 (.inr h)
theorem ensR_sort {l : List Rnd} {n : Int} (h : RSort l) : RSort (ensR l n) := by
 unfold ensR; split
 ·exact h
 ·rename_i hn
  have hb := binR_le l n
  have hs := λ j x hj => binR_spec (n := n) h j x hj
  unfold RSort insL
  rw [List.pairwise_append, List.pairwise_cons]
  have hd : ∀ y ∈ l.drop (binR l n), n < y.b := λ y hy => by
   obtain ⟨j, hj⟩ := List.mem_iff_getElem?.1 hy
   rw [List.getElem?_drop] at hj
   have h1 := hs _ _ hj
   have h2 : y.b ≠ n := λ e => hn (by unfold hasR; rw [List.any_eq_true]; exact ⟨y, List.mem_of_getElem? hj, by simp [e]⟩)
   omega
  have ht : ∀ y ∈ l.take (binR l n), y.b < n := λ y hy => by
   obtain ⟨j, hj⟩ := List.mem_iff_getElem?.1 hy
   rw [List.getElem?_take] at hj
   split at hj
   ·rename_i hjl; exact (hs _ _ hj).1 hjl
   ·cases hj
  refine ⟨h.sublist (List.take_sublist _ _), ⟨λ y hy => hd y hy, h.sublist (List.drop_sublist _ _)⟩, λ y hy z hz => ?_⟩
  have h1 := ht y hy
  rcases List.mem_cons.1 hz with rfl | hz
  ·exact h1
  ·have := hd z hz; omega
theorem set_map {l : List Rnd} {i : Nat} {r r' : Rnd} (h : l[i]? = some r) (e : r'.b = r.b) : (l.set i r').map (·.b) = l.map (·.b) := by
 rw [List.map_set]
 obtain ⟨hi, rfl⟩ := List.getElem?_eq_some_iff.1 h
 rw [e]
 have : (l.map (·.b))[i]'(by simpa using hi) = (l[i]).b := by rw [List.getElem_map]
 rw [← this]; exact List.set_getElem_self _
theorem set_mem {l : List Rnd} {i : Nat} {r r' x : Rnd} (hs : RSort l) (h : l[i]? = some r) (e : r'.b = r.b) : x ∈ l.set i r' ↔ x = r' ∨ (x ∈ l ∧ x.b ≠ r.b) := by
 obtain ⟨hi, hr⟩ := List.getElem?_eq_some_iff.1 h
 constructor
 ·intro hx
  obtain ⟨j, hj⟩ := List.mem_iff_getElem?.1 hx
  by_cases hij : i = j
  ·subst hij; rw [List.getElem?_set_self hi] at hj; exact .inl (Option.some.inj hj).symm
  ·rw [List.getElem?_set_ne hij] at hj
   obtain ⟨hjl, hjx⟩ := List.getElem?_eq_some_iff.1 hj
   refine .inr ⟨List.mem_of_getElem? hj, λ hb => ?_⟩
   rcases Nat.lt_or_gt_of_ne hij with hlt | hlt
   ·have := List.pairwise_iff_getElem.1 hs _ _ hi hjl hlt; rw [hr, hjx] at this; omega
   ·have := List.pairwise_iff_getElem.1 hs _ _ hjl hi hlt; rw [hr, hjx] at this; omega
 ·rintro (rfl | ⟨hx, hb⟩)
  ·exact List.mem_of_getElem? (List.getElem?_set_self hi)
  ·obtain ⟨j, hj⟩ := List.mem_iff_getElem?.1 hx
   have hij : i ≠ j := λ e => by subst e; rw [h] at hj; exact hb (by rw [Option.some.inj hj])
   exact List.mem_of_getElem? (by rw [List.getElem?_set_ne hij]; exact hj)
theorem sort_uniq {l : List Rnd} (hs : RSort l) {x y : Rnd} (hx : x ∈ l) (hy : y ∈ l) (h : x.b = y.b) : x = y := by
 obtain ⟨i, hi⟩ := List.mem_iff_getElem?.1 hx
 obtain ⟨j, hj⟩ := List.mem_iff_getElem?.1 hy
 obtain ⟨hil, hix⟩ := List.getElem?_eq_some_iff.1 hi
 obtain ⟨hjl, hjx⟩ := List.getElem?_eq_some_iff.1 hj
 rcases Nat.lt_trichotomy i j with hlt | rfl | hlt
 ·have := List.pairwise_iff_getElem.1 hs _ _ hil hjl hlt; rw [hix, hjx] at this; omega
 ·rw [hi] at hj; exact Option.some.inj hj
 ·have := List.pairwise_iff_getElem.1 hs _ _ hjl hil hlt; rw [hix, hjx] at this; omega
theorem step_cases (C : Cou) (x : Sst) {r : Rnd} {v : Vow} (hr : (ensR C.rounds x.ballot)[binR C.rounds x.ballot]? = some r) (hv : C.vows[x.who.toNat]? = some v) :
  C.step x = C.ens x.ballot ∨
  (x.kind = 1 ∧ prepK v x.ballot = true ∧ C.step x = ⟨C.vows.set x.who.toNat ⟨x.ballot, v.ballot, v.value⟩, (ensR C.rounds x.ballot).set (binR C.rounds x.ballot) { r with p := r.p ||| 2 ^ x.who.toNat, h := r.h ++ [v] }⟩) ∨
  (x.kind = 2 ∧ r.asked = false ∧ C.vows.length < 2 * Vote.size r.p ∧ C.step x = ⟨C.vows, (ensR C.rounds x.ballot).set (binR C.rounds x.ballot) { r with asked := true, v := chooseV r.h x.value }⟩) ∨
  (x.kind = 3 ∧ r.asked = true ∧ accK v x.ballot = true ∧ C.step x = ⟨C.vows.set x.who.toNat ⟨x.ballot, x.ballot, r.v⟩, (ensR C.rounds x.ballot).set (binR C.rounds x.ballot) { r with q := r.q ||| 2 ^ x.who.toNat }⟩) := by
 have e1 : (ensR C.rounds x.ballot).getD (binR C.rounds x.ballot) default = r := by rw [List.getD_eq_getElem?_getD, hr]; rfl
 have e2 : C.vows.getD x.who.toNat default = v := by rw [List.getD_eq_getElem?_getD, hv]; rfl
 unfold Cou.step; dsimp only; rw [e1, e2]
 by_cases h1 : x.kind = 1
 ·rw [if_pos h1]
  by_cases h2 : prepK v x.ballot = true
  ·rw [if_pos h2]; exact .inr (.inl ⟨h1, h2, by unfold prepV; rw [if_pos h2]⟩)
  ·rw [if_neg h2]; exact .inl rfl
 ·rw [if_neg h1]
  by_cases h2 : x.kind = 2
  ·rw [if_pos h2]
   by_cases h3 : r.asked = false ∧ C.vows.length < 2 * Vote.size r.p
   ·rw [if_pos h3]; exact .inr (.inr (.inl ⟨h2, h3.1, h3.2, rfl⟩))
   ·rw [if_neg h3]; exact .inl rfl
  ·rw [if_neg h2]
   by_cases h3 : x.kind = 3
   ·rw [if_pos h3]
    by_cases h4 : r.asked = true ∧ accK v x.ballot = true
    ·rw [if_pos h4]; exact .inr (.inr (.inr ⟨h3, h4.1, h4.2, by unfold accV; rw [if_pos h4.2]⟩))
    ·rw [if_neg h4]; exact .inl rfl
   ·rw [if_neg h3]; exact .inl rfl
structure SyG (N k : Nat) (C : Cou) : Prop where
 s : RSort C.rounds
 bd : ∀ r ∈ C.rounds, 1 ≤ r.b ∧ r.b ≤ 50
 n : C.vows.length = N
 n15 : N ≤ 15
 len : C.rounds.length ≤ k
 hl : ∀ r ∈ C.rounds, r.h.length ≤ k
 pq : ∀ r ∈ C.rounds, r.p < 32768 ∧ r.q < 32768
theorem badS_ok {N : Nat} {x : Sst} (h : badS (N : Int) x = false) : 1 ≤ x.kind ∧ x.kind ≤ 3 ∧ 0 ≤ x.who ∧ x.who < (N : Int) ∧ 1 ≤ x.ballot ∧ x.ballot ≤ 50 := by
 unfold badS at h; simp only [Bool.or_eq_false_iff, decide_eq_false_iff_not] at h; omega
theorem or_bit {a k : Nat} (ha : a < 32768) (hk : k < 15) : a ||| 2 ^ k < 32768 := Nat.or_lt_two_pow (n := 15) ha (Nat.pow_lt_pow_right (a := 2) (by decide) hk)
theorem SyG.ens {N k : Nat} {C : Cou} (h : SyG N k C) {n : Int} (hn : 1 ≤ n ∧ n ≤ 50) : SyG N (k + 1) (C.ens n) := by
 refine ⟨ensR_sort h.s, λ r hr => ?_, h.n, h.n15, ?_, λ r hr => ?_, λ r hr => ?_⟩
 ·rcases ensR_mem hr with rfl | hr
  ·exact hn
  ·exact h.bd r hr
 ·show (ensR C.rounds n).length ≤ k + 1
  have := h.len
  unfold ensR; split
  ·omega
  ·rw [insL_len (binR_le _ _)]; omega
 ·rcases ensR_mem hr with rfl | hr
  ·exact Nat.zero_le _
  ·have := h.hl r hr; omega
 ·rcases ensR_mem hr with rfl | hr
  ·exact ⟨by show (0 : Nat) < 32768; decide, by show (0 : Nat) < 32768; decide⟩
  ·exact h.pq r hr
theorem SyG.upd {N k : Nat} {C : Cou} (h : SyG N k C) {n : Int} (hn : 1 ≤ n ∧ n ≤ 50) {r r' : Rnd} {V : List Vow} (hr : (ensR C.rounds n)[binR C.rounds n]? = some r) (hb : r'.b = r.b) (hV : V.length = N) (hh : r'.h.length ≤ r.h.length + 1) (hp : r'.p < 32768) (hq : r'.q < 32768) :
  SyG N (k + 1) ⟨V, (ensR C.rounds n).set (binR C.rounds n) r'⟩ := by
 have g := h.ens hn
 have hrm := List.mem_of_getElem? hr
 have hrh : r.h.length ≤ k := by
  rcases ensR_mem hrm with rfl | h1
  ·exact Nat.zero_le _
  ·exact h.hl r h1
 refine ⟨rsort_map (set_map hr hb).symm g.s, λ x hx => ?_, hV, h.n15, by rw [List.length_set]; exact g.len, λ x hx => ?_, λ x hx => ?_⟩
 ·rcases (set_mem g.s hr hb).1 hx with rfl | ⟨h1, _⟩
  ·rw [hb]; exact g.bd r hrm
  ·exact g.bd x h1
 ·rcases (set_mem g.s hr hb).1 hx with rfl | ⟨h1, _⟩
  ·omega
  ·exact g.hl x h1
 ·rcases (set_mem g.s hr hb).1 hx with rfl | ⟨h1, _⟩
  ·exact ⟨hp, hq⟩
  ·exact g.pq x h1
theorem SyG.step {N k : Nat} {C : Cou} (h : SyG N k C) {x : Sst} (hx : badS (N : Int) x = false) : SyG N (k + 1) (C.step x) := by
 obtain ⟨b1, b2, b3, b4, b5, b6⟩ := badS_ok hx
 obtain ⟨r, hr, hrb, hro⟩ := ensR_at (n := x.ballot) h.s
 have hw : x.who.toNat < C.vows.length := by rw [h.n]; omega
 have g := (h.ens ⟨b5, b6⟩).pq r (List.mem_of_getElem? hr)
 have h15 := h.n15
 rcases step_cases C x hr (List.getElem?_eq_getElem hw) with e | ⟨_, _, e⟩ | ⟨_, _, _, e⟩ | ⟨_, _, _, e⟩ <;> rw [e]
 ·exact h.ens ⟨b5, b6⟩
 ·exact h.upd ⟨b5, b6⟩ hr rfl (by rw [List.length_set]; exact h.n) (by simp) (or_bit g.1 (by omega)) g.2
 ·exact h.upd ⟨b5, b6⟩ hr rfl h.n (by simp) g.1 g.2
 ·exact h.upd ⟨b5, b6⟩ hr rfl (by rw [List.length_set]; exact h.n) (by simp) g.1 (or_bit g.2 (by omega))
theorem SyG.zero {N : Nat} (h : N ≤ 15) : SyG N 0 (cou0 N) := ⟨List.Pairwise.nil, λ r hr => (nomatch hr), by simp [cou0], h, Nat.le_refl _, λ r hr => (nomatch hr), λ r hr => (nomatch hr)⟩
def plyS (N : Nat) (l : List Sst) : Cou := l.foldl Cou.step (cou0 N)
theorem plyS_snoc {N k : Nat} {l : List Sst} {x : Sst} (h : l[k]? = some x) : plyS N (l.take (k + 1)) = (plyS N (l.take k)).step x := by
 obtain ⟨hk, rfl⟩ := List.getElem?_eq_some_iff.1 h
 unfold plyS
 rw [List.take_succ_eq_append_getElem hk, List.foldl_append]; rfl
theorem plyS_app {N : Nat} {l m : List Sst} : plyS N (l ++ m) = m.foldl Cou.step (plyS N l) := by unfold plyS; rw [List.foldl_append]
end
end Go.Proofs.Ytifffjhhammeiaa
