import Derived.Test.YtifffjhhammeiaaFcs
import Derived.Test.YtifffjhhammeiaaPrs
import Derived.Test.YtifffjhhammeiaaFlG
import Derived.Test.YtifffjhhammeiaaMtR
import Derived.Test.YtifffjhhammeiaaMlB
set_option linter.unusedVariables false
set_option linter.unusedSimpArgs false
set_option maxRecDepth 100000
set_option maxHeartbeats 4000000
namespace Go.Proofs.Ytifffjhhammeiaa
section
open Go.RowKit Go.Maps
namespace Pr
def key (c : Pr) : Value := .agg #[.int .i64 c.a, .int .i64 c.b]
theorem laidP : laidOutB Try.prog = true := by kernel_rfl
theorem keyP_formed (x y : Int) : (Value.agg #[.int .i64 x, .int .i64 y]).formed Try.prog 31 = true := by kernel_rfl
theorem keyP_type : Try.prog.keyType 31 = true := by kernel_rfl
theorem keyP_size : ∃ n, Try.prog.types.size + 1 = n + 2 := by
  have : 1 ≤ Try.prog.types.size := by decide +kernel
  exact ⟨Try.prog.types.size - 1, by omega⟩
theorem keyP_cells : Try.prog.cellsOf 31 = 2 ∧ Try.prog.cellsOf 3 = 1 := by
  constructor <;> kernel_rfl
theorem keyP_lit (c : Pr) (h : c.ok) : ∃ l, keyOf Try.prog 31 (key c) = some l := by
  obtain ⟨hx, hy⟩ := h
  obtain ⟨n, hn⟩ := keyP_size
  unfold key keyOf
  have hu := Try.underlying31
  rw [hu]
  simp only [keyP_type, keyP_formed, Bool.and_self, if_true, hn]
  have h1 : Try.prog.keyLits (n + 2) 31 [.int .i64 c.a, .int .i64 c.b] = some [.int .i64 c.a, .int .i64 c.b] := by
    simp [Program.keyLits, hu, Try.underlying3, keyP_cells, hx, hy]
  exact ⟨.string (keyBytes [.int .i64 c.a, .int .i64 c.b]), by
    have e : (Value.agg #[.int .i64 c.a, .int .i64 c.b]).cells.toList = [.int .i64 c.a, .int .i64 c.b] := rfl
    rw [e, h1]; rfl⟩
theorem keyP_ok : KeyOk Try.prog 31 key ok where
  keyed := Keyed.of_law (Go.deep_law_laid laidP (m := 100) (by decide) (by decide +kernel) (by kernel_rfl) (by kernel_rfl))
  lit := keyP_lit
  inj := by
    intro a b h
    unfold key at h
    injection h with h
    obtain ⟨x, y⟩ := a
    obtain ⟨z, t⟩ := b
    simp at h
    simp [h]
end Pr
def okQ (N : Nat) (x : Pr) : Prop := x.ok ∧ 0 ≤ x.a ∧ x.a < x.b ∧ x.b < N
structure QF where
  N : Nat
  f : Pr → Int
instance : CoeFun QF (λ _ => Pr → Int) := ⟨QF.f⟩
def qf0 (N : Nat) : QF := ⟨N, λ _ => 0⟩
theorem Pr.keyP_okN (N : Nat) : KeyOk Try.prog 31 Pr.key (okQ N) := ⟨Pr.keyP_ok.keyed, λ x h => Pr.keyP_ok.lit x h.1, Pr.keyP_ok.inj⟩
section
variable {w w' : World} {b : Nat} {g : QF} {S : List Nat} {x : Pr} {st : Nat}
def MpL (w : World) (b : Nat) (l : List (Pr × Int × Nat)) (clk : Nat) (g : QF) : Prop :=
  MapIs Pr.key w b l clk ∧ (∀ e ∈ l, okQ g.N e.1) ∧ (l.map (·.1)).Nodup ∧ ∀ y, (MapIs.get l y).getD 0 = g y
def MapC (w : World) (b : Nat) (g : QF) : Prop := ∃ l clk, MpL w b l clk g
def EntC (w : World) (b : Nat) (g : QF) (x : Pr) (st : Nat) : Prop := ∃ l clk, MpL w b l clk g ∧ ∃ (j : Nat) (v : Int), l[j]? = some (x, v, st)
theorem MapC.lt (h : MapC w b g) : b < w.heap.size := by obtain ⟨l, c, h, _⟩ := h; exact h.lt
theorem MpL.keep {l : List (Pr × Int × Nat)} {clk : Nat} (h : MpL w b l clk g) (hk : w'.heap[b]? = w.heap[b]?) : MpL w' b l clk g := ⟨h.1.keep hk, h.2⟩
theorem MapC.keep (h : MapC w b g) (hk : w'.heap[b]? = w.heap[b]?) : MapC w' b g := by obtain ⟨l, c, h⟩ := h; exact ⟨l, c, h.keep hk⟩
theorem MapC.later (h : MapC w b g) (x : Ext w w') : MapC w' b g := h.keep (x.block b h.lt)
theorem MapC.mod (h : MapC w b g) (m : Mod S w w') (hs : b ∉ S) : MapC w' b g := h.keep (m.block b h.lt hs)
theorem EntC.map (h : EntC w b g x st) : MapC w b g := by obtain ⟨l, c, h, _⟩ := h; exact ⟨l, c, h⟩
theorem EntC.lt (h : EntC w b g x st) : b < w.heap.size := h.map.lt
theorem EntC.keep (h : EntC w b g x st) (hk : w'.heap[b]? = w.heap[b]?) : EntC w' b g x st := by obtain ⟨l, c, h, h2⟩ := h; exact ⟨l, c, h.keep hk, h2⟩
theorem EntC.later (h : EntC w b g x st) (e : Ext w w') : EntC w' b g x st := h.keep (e.block b h.lt)
theorem MapC.of_nil (N : Nat) (h : MapI w b []) : MapC w b (qf0 N) := by
  obtain ⟨es, c, h1, h2⟩ := h
  have : es.toList = [] := by
    cases he : es.toList with
    | nil => rfl
    | cons a r => rw [he] at h2; exact h2.elim
  have e : es = #[] := by apply Array.ext'; simpa using this
  subst e
  exact ⟨[], c, ⟨by simpa using h1, by simp, by simp⟩, by simp, by simp, λ y => rfl⟩
def RM (b : Nat) (g : QF) (w w' : World) : Prop := Mod [b] w w' ∧ (MapC w b g → MapC w' b g)
theorem RM.of_ext (h : Ext w w') : RM b g w w' := ⟨Mod.of_ext h, λ k => k.later h⟩
theorem RM.trans {w1 w2 : World} (h : RM b g w w1) (k : RM b g w1 w2) : RM b g w w2 := ⟨h.1.trans k.1, λ q => k.2 (h.2 q)⟩
theorem setMap_mod {es : Array MapEntry} {clock : Nat} : Mod [b] w (setMap w b es clock) :=
  ⟨rfl, rfl, rfl, by rw [setMap_size]; exact Nat.le_refl _, λ k _ hn => setMap_other (by simpa using hn)⟩
def upC (g : QF) (x : Pr) (v : Int) : QF := ⟨g.N, λ y => if y = x then v else g.f y⟩
end
section
variable {w : World} {b : Nat} {l : List (Pr × Int × Nat)} {clock : Nat} {g : QF}
theorem mapC_und : Try.prog.underlying 27 = some (.map 31 3) := by kernel_rfl
theorem mapC_lookup (h : MapC w b g) (x : Pr) (hx : okQ g.N x) : (Instr.lookup 27 (.map (some b)) (Pr.key x) false).run Try.prog w = .ok (.int .i64 (g x)) w := by
  obtain ⟨l, c, h1, h2, h3, h4⟩ := h
  rw [← h4 x]
  exact (MapIs.lookup (Pr.keyP_okN g.N) mapC_und (Try.zeroValue3 w) h1 h2 h3 x hx).1
theorem stamp_at {l : List (Pr × Int × Nat)} {j : Nat} {a : Pr × Int × Nat} (hm : (l.map (·.2.2)).Nodup) (hj : l[j]? = some a) : ((l.map (entOf Pr.key)).toArray).findIdx? (λ y => ((y.born : Nat) : Int) == ((a.2.2 : Nat) : Int)) = some j := by
  rw [Go.WideElems.findIdx_arr]
  refine Go.WideElems.findIdx_born (l := l.map (entOf Pr.key)) (j := j) (e0 := entOf Pr.key a) ?_ (by rw [List.getElem?_map, hj]; rfl)
  rw [List.map_map]; exact hm
theorem mapC_entry (h : MapC w b g) (x : Pr) (hx : okQ g.N x) : ∃ (st : Nat) (w' : World), (Instr.mapEntry 27 (.map (some b)) (Pr.key x)).run Try.prog w = .ok (.tuple #[.int .i64 (g x), .int .i64 (st : Int)]) w' ∧ Mod [b] w w' ∧ EntC w' b g x st := by
  obtain ⟨l, clock, h, hw, hn, hg⟩ := h
  obtain ⟨lx, hlx⟩ := (Pr.keyP_okN g.N).lit x hx
  have hb := h.blk
  have hlt := h.lt
  have ht := mapC_und
  have hz := Try.zeroValue3
  rcases MapIs.found (Pr.keyP_okN g.N) h hw x hx with ⟨h1, h2, h3⟩ | ⟨j, v0, n0, h1, h2⟩
  · have hgx : g x = 0 := by rw [← hg x, h2]; rfl
    have hput : MapIs.put l clock x 0 = l ++ [(x, 0, clock)] := by
      unfold MapIs.put
      rw [if_neg]
      intro ha
      obtain ⟨a, ha, hd⟩ := List.any_eq_true.1 ha
      exact h3 a ha (by simpa using hd)
    have hst : MpL (setMap w b ((l ++ [(x, 0, clock)]).map (entOf Pr.key)).toArray (clock + 1)) b (l ++ [(x, 0, clock)]) (clock + 1) g := by
      refine ⟨⟨setMap_heap hlt, λ a ha => ?_, ?_⟩, λ a ha => ?_, ?_, λ y => ?_⟩
      · rcases List.mem_append.1 ha with ha | ha
        · have := h.born a ha; omega
        · simp at ha; subst ha; simp
      · rw [List.map_append, List.nodup_append]
        refine ⟨h.stamps, by simp, λ a ha c hc e => ?_⟩
        simp at hc
        obtain ⟨y, hy, rfl⟩ := List.mem_map.1 ha
        have := h.born y hy
        omega
      · rcases List.mem_append.1 ha with ha | ha
        · exact hw a ha
        · simp at ha; subst ha; exact hx
      · have := MapIs.keys_put hn clock x 0
        rw [hput] at this; exact this
      · have := MapIs.get_put l clock x y 0
        rw [hput] at this
        rw [this]
        by_cases e : y = x
        · rw [if_pos e, e, hgx]; rfl
        · rw [if_neg e]; exact hg y
    refine ⟨clock, _, ?_, setMap_mod, ⟨_, _, hst, l.length, 0, by simp⟩⟩
    · rw [hgx]
      have : (l.map (entOf Pr.key)).toArray.push (⟨Pr.key x, .int .i64 0, clock⟩ : MapEntry) = ((l ++ [(x, 0, clock)]).map (entOf Pr.key)).toArray := by simp [entOf]
      simp [Instr.mapEntry, run_underlying ht, MapKept.run_getObj_map hb, (Pr.keyP_okN g.N).keyed.check w false hlx, h1, hz, MapKept.run_setObj_map _ hb, Result.andThen, setMap, Go.ChangeMaps.setBlock, goInt, entOf]
  · have hgx : g x = v0 := by rw [← hg x, MapIs.get_of hn h2]; rfl
    have hst : MpL (setMap w b (l.map (entOf Pr.key)).toArray clock) b l clock g := ⟨⟨setMap_heap hlt, h.born, h.stamps⟩, hw, hn, hg⟩
    refine ⟨n0, _, ?_, setMap_mod, ⟨_, _, hst, j, v0, h2⟩⟩
    · rw [hgx]
      have hj : (l.map (entOf Pr.key)).toArray[j]? = some (entOf Pr.key (x, v0, n0)) := by simp [h2]
      have hsame : (l.map (entOf Pr.key)).toArray.modify j (λ e => { e with key := Pr.key x }) = (l.map (entOf Pr.key)).toArray := by
        apply Array.ext'
        rw [Array.toList_modify, Go.ChangeMaps.modify_eq_set _ _ _ _ (by rw [List.getElem?_map, h2]; rfl)]
        exact Go.WideElems.set_self _ _ _ (by rw [List.getElem?_map, h2]; rfl)
      have hke : (entOf Pr.key (x, v0, n0)).key = Pr.key x := rfl
      have hbo : (entOf Pr.key (x, v0, n0)).born = n0 := rfl
      simp only [Instr.mapEntry, Sem.run_bind, run_underlying ht, Result.andThen_ok, MapKept.run_getObj_map hb, (Pr.keyP_okN g.N).keyed.check w false hlx, h1, hj, Option.map_some, Option.getD_some, hke, (Pr.keyP_okN g.N).keyed.stays w hlx, hsame, MapKept.run_setObj_map _ hb, hbo, Sem.run_pure]
      rfl
theorem mapC_store {st : Nat} {x : Pr} (h : EntC w b g x st) (v : Int) : ∃ w', (Instr.entryStore 27 (.map (some b)) (.int .i64 (st : Int)) (.int .i64 v)).run Try.prog w = .ok () w' ∧ Mod [b] w w' ∧ MapC w' b (upC g x v) := by
  obtain ⟨l, clock, ⟨h, hw, hn, hg⟩, j, v0, h2⟩ := h
  have hb := h.blk
  have hlt := h.lt
  have hidx := stamp_at (a := (x, v0, st)) h.stamps h2
  have hany : l.any (λ e => decide (e.1 = x)) = true := List.any_eq_true.2 ⟨_, List.mem_of_getElem? h2, by simp⟩
  have hset : MapIs.put l clock x v = l.set j (x, v, st) := by
    unfold MapIs.put
    rw [if_pos hany]
    refine List.ext_getElem? λ i => ?_
    rw [List.getElem?_map]
    by_cases hij : j = i
    · subst hij
      rw [h2, List.getElem?_set_self (List.getElem?_eq_some_iff.1 h2).1]
      simp
    · rw [List.getElem?_set_ne hij]
      cases hi : l[i]? with
      | none => rfl
      | some a =>
        have : a.1 ≠ x := by
          intro hax
          have e1 : (l.map (·.1))[i]? = (l.map (·.1))[j]? := by rw [List.getElem?_map, List.getElem?_map, hi, h2]; simp [hax]
          have := (List.getElem?_inj (by simpa using (List.getElem?_eq_some_iff.1 hi).1) hn).1 e1
          exact hij this.symm
        simp [this]
  have hmod : (l.map (entOf Pr.key)).toArray.modify j (λ e => { e with val := Value.int .i64 v }) = ((l.set j (x, v, st)).map (entOf Pr.key)).toArray := by
    apply Array.ext'
    rw [Array.toList_modify, Go.ChangeMaps.modify_eq_set _ _ _ _ (by rw [List.getElem?_map, h2]; rfl), List.map_set]
    rfl
  refine ⟨setMap w b ((l.set j (x, v, st)).map (entOf Pr.key)).toArray clock, ?_, setMap_mod, l.set j (x, v, st), clock, ⟨setMap_heap hlt, λ a ha => ?_, ?_⟩, λ a ha => ?_, ?_, λ y => ?_⟩
  · rw [← hmod]
    simp only [Instr.entryStore, Sem.run_bind, MapKept.run_getObj_map hb, Result.andThen_ok, asInt, asIntOf, goInt, Sem.run_pure]
    rw [hidx]
    exact MapKept.run_setObj_map _ hb
  · rcases List.mem_or_eq_of_mem_set ha with ha | ha
    · exact h.born a ha
    · rw [ha]; exact h.born (x, v0, st) (List.mem_of_getElem? h2)
  · rw [List.map_set]
    have : (l.map (·.2.2)).set j st = l.map (·.2.2) := by
      obtain ⟨hl1, hl2⟩ := List.getElem?_eq_some_iff.1 h2
      have e : (l.map (·.2.2))[j]'(by simpa using hl1) = st := by rw [List.getElem_map, hl2]
      conv => lhs; rw [← e]
      exact List.set_getElem_self _
    rw [this]; exact h.stamps
  · rcases List.mem_or_eq_of_mem_set ha with ha | ha
    · exact hw a ha
    · rw [ha]; exact hw (x, v0, st) (List.mem_of_getElem? h2)
  · have := MapIs.keys_put hn clock x v
    rw [hset] at this; exact this
  · have := MapIs.get_put l clock x y v
    rw [hset] at this
    rw [this]
    show _ = (if y = x then v else g.f y)
    by_cases e : y = x
    · rw [if_pos e, if_pos e]; rfl
    · rw [if_neg e, if_neg e]; exact hg y
end
section
variable {n : Nat} {E E' : List (Nat × Value)} {a : Act} {w w' w0 w1 : World} {Q : Exit → Act → World → Prop} {ops : Array Oper}
variable {d : Option Nat} {ty : TypeId} {pos : String} {af : Array Edge} {gd : Option (Nat × Bool)} {x y z m : Operand} {rest : List Oper} {r st : Nat} {g : QF} {p : Pr} {v : Int}
theorem lkC (h : MapC w r g) (hk : okQ g.N p) (hx : ev E m = some (.map (some r))) (hy : ev E y = some (Pr.key p)) :
    Runs Try.prog E ⟨d, .lookup 27 m y false, ty, pos, af, gd⟩ w (.int .i64 (g p)) w := λ n a ha => by
  simp only [execOp, ha.ev hx, ha.ev hy, Sem.run_bind, mapC_lookup h p hk, Result.andThen_ok, Sem.run_pure]
theorem meC {d : Nat} (h : MapC w r g) (hk : okQ g.N p) (hx : ev E m = some (.map (some r))) (hy : ev E y = some (Pr.key p)) (hd : Nat.blt d n = true)
    (hK : ∀ w1 (st : Nat), Mod [r] w w1 → EntC w1 r g p st → WL Try.prog n ops Q rest ((d, .tuple #[.int .i64 (g p), .int .i64 (st : Int)]) :: E) w1) : WL Try.prog n ops Q (⟨some d, .mapEntry 27 m y, ty, pos, af, none⟩ :: rest) E w := by
  obtain ⟨st, w1, h1, h2, h3⟩ := mapC_entry h p hk
  refine vl (w' := w1) (v := .tuple #[.int .i64 (g p), .int .i64 (st : Int)]) (λ n a ha => ?_) hd (hK _ st h2 h3)
  simp only [execOp, ha.ev hx, ha.ev hy, Sem.run_bind, h1, Result.andThen_ok, Sem.run_pure]
theorem esC (h : EntC w r g p st) (hx : ev E m = some (.map (some r))) (hy : ev E y = some (.int .i64 (st : Int))) (hz : ev E z = some (.int .i64 v))
    (hK : ∀ w1, Mod [r] w w1 → MapC w1 r (upC g p v) → WL Try.prog n ops Q rest E w1) : WL Try.prog n ops Q (⟨none, .entryStore 27 m y z, ty, pos, af, none⟩ :: rest) E w := by
  obtain ⟨w1, h1, h2, h3⟩ := mapC_store h v
  refine us (w' := w1) (λ n a ha => ?_) (hK _ h2 h3)
  simp only [execOp, ha.ev hx, ha.ev hy, ha.ev hz, Sem.run_bind, h1, Result.andThen_ok, Sem.run_pure]
end
section
variable {bM : Nat} {gM : QF} {P : Program} {ops : Array Oper} {Q : Exit → Act → World → Prop} {kd : Nat → Nat}
def QInM (bM : Nat) (gM : QF) (P : Program) (ops : Array Oper) (w0 : World) (o : Oper) (v : Value) (a : Act) : Prop :=
  (Region.wanted o (yielded ops a.tmps) = true ∧ ∀ w, RM bM gM w0 w → qUpon P w v ((execOp a.eval o).run P w)) ∨
  (Region.wanted o (yielded ops a.tmps) = false ∧ v = undef)
theorem QInM.of_same {w0 : World} {o : Oper} {v : Value} {a a' : Act} (h : QInM bM gM P ops w0 o v a) (he : execOp a'.eval o = execOp a.eval o) (hw : Region.wanted o (yielded ops a'.tmps) = Region.wanted o (yielded ops a.tmps)) : QInM bM gM P ops w0 o v a' := by
  unfold QInM at *; rw [he, hw]; exact h
theorem QInM.on {w0 w1 : World} {o : Oper} {v : Value} {a : Act} (h : QInM bM gM P ops w0 o v a) (hx : RM bM gM w0 w1) : QInM bM gM P ops w1 o v a :=
  h.imp (λ ⟨h1, h2⟩ => ⟨h1, λ w hw => h2 w (hx.trans hw)⟩) id
theorem Yields.qinM {w0 : World} {o : Oper} {v : Value} {a : Act} (h : Yields P ops o v a) : QInM bM gM P ops w0 o v a :=
  h.imp (λ ⟨h1, h2⟩ => ⟨h1, λ w _ => by rw [h2 w]; exact ⟨rfl, rfl⟩⟩) id
def stepFM (bM : Nat) (gM : QF) (P : Program) (ops : Array Oper) (Q : Exit → Act → World → Prop) (kd : Nat → Nat) (i : Nat) (K : Act → World → Prop) (a : Act) (w0 : World) : Prop :=
  ∃ o, ops[i]? = some o ∧
    ((kd i ≤ 1 ∧ ∃ v, QInM bM gM P ops w0 o v a ∧ K (a.put o.dst v) w0) ∨
     (1 < kd i ∧ ∀ w, Ext w0 w → wpOp P ops Q i (λ a' w' => (kd i = 2 → RM bM gM w0 w') ∧ K a' w') a w))
def anyFM (bM : Nat) (gM : QF) (P : Program) (ops : Array Oper) (Q : Exit → Act → World → Prop) (kd : Nat → Nat) : Nat → Array Bool → Act → World → Prop
  | 0, l, a, w0 => Region.ready .any ops l = [] ∧ ∀ w, Ext w0 w → Q .normal a w
  | f + 1, l, a, w0 => (Region.ready .any ops l = [] → ∀ w, Ext w0 w → Q .normal a w) ∧ ∀ i ∈ Region.ready .any ops l, stepFM bM gM P ops Q kd i (anyFM bM gM P ops Q kd f (l.setIfInBounds i true)) a w0
theorem any_of_FM : ∀ (f : Nat) (l : Array Bool) (a : Act) (w0 : World), anyFM bM gM P ops Q kd f l a w0 → ∀ w, Ext w0 w → wpAny P .any ops Q f l a w
  | 0, _, _, _, h, w, hw => ⟨h.1, h.2 w hw⟩
  | f + 1, l, a, w0, h, w, hw => ⟨λ h0 => h.1 h0 w hw, λ i hi => by
      obtain ⟨o, ho, h2⟩ := h.2 i hi
      rcases h2 with ⟨_, v, hq, hk⟩ | ⟨_, h2⟩
      · unfold wpOp
        simp only [ho]
        rcases hq with ⟨hw1, hq⟩ | ⟨hw1, rfl⟩
        · rw [if_pos hw1]
          refine .inl ?_
          have hq := hq w (RM.of_ext hw)
          unfold Oper.wp
          generalize (execOp a.eval o).run P w = r at *
          cases r with
          | ok n w' =>
            cases n <;> simp only [qUpon] at hq <;> simp only [Oper.upon]
            case value u => obtain ⟨rfl, rfl⟩ := hq; exact any_of_FM f _ _ _ hk _ hw
            case skip => obtain ⟨rfl, rfl⟩ := hq; exact any_of_FM f _ _ _ hk _ hw
            case enter f' args => obtain ⟨rfl, hc⟩ := hq; exact hc.mono λ e w'' ⟨he, hx⟩ => by subst he; exact any_of_FM f _ _ _ hk _ (hw.tr hx)
          | halt x w' => simp only [qUpon] at hq
        · rw [if_neg (by rw [hw1]; decide)]
          exact any_of_FM f _ _ _ hk _ hw
      · exact wpOp_mono (λ a' w' h3 => any_of_FM f _ _ _ h3.2 _ (Ext.rf w')) (h2 w hw)⟩
theorem firstFM {i : Nat} {oi : Oper} {v : Value} (hi : ops[i]? = some oi) (hk : kd i ≤ 1) (hsel : ∀ (j : Nat) (o : Oper) cs b, ops[j]? = some o → o.op ≠ .select cs b)
    (hQ : ∀ c a w, ¬ Q (.panic c) a w) (Z : World → Act → Prop) (z1 : ∀ w0 a, Z w0 a → QInM bM gM P ops w0 oi v a)
    (z2 : ∀ w0 a a', Z w0 a → execOp a'.eval oi = execOp a.eval oi → Region.wanted oi (yielded ops a'.tmps) = Region.wanted oi (yielded ops a.tmps) → Z w0 a')
    (z3 : ∀ w0 w1 a, RM bM gM w0 w1 → Z w0 a → Z w1 a) (R : Nat → Bool) (l0 : Array Bool)
    (hR : ∀ j oj, ops[j]? = some oj → j ≠ i → (∀ e ∈ oj.after, Region.binds .any e = true → R e.on = true) → R j = true)
    (hB : (∀ w0 w1 a, Z w0 a → Z w1 a) ∨ ∀ j, R j = true → 3 ≤ kd j → l0.getD j true = true) :
    ∀ (f : Nat) (l : Array Bool) (a : Act) (w0 : World), (∀ j, l.getD j false = true → R j = true) → (∀ j, l0.getD j true = true → l.getD j true = true) →
      (∀ j oj, ops[j]? = some oj → j ≠ i → l.getD j true = false → (∀ e ∈ oj.after, Region.binds .any e = true → e.on ≠ i) → oi.apart ops oj = true) →
      i ∈ Region.ready .any ops l → Z w0 a → anyFM bM gM P ops Q kd f (l.setIfInBounds i true) (a.put oi.dst v) w0 → anyFM bM gM P ops Q kd (f + 1) l a w0 := by
  intro f
  induction f with
  | zero =>
    intro l a w0 _ _ _ hr hz H
    refine ⟨λ h => (by rw [h] at hr; cases hr), λ j hj => ?_⟩
    by_cases hji : j = i
    · subst hji; exact ⟨oi, hi, .inl ⟨hk, v, z1 _ _ hz, H⟩⟩
    · have := ready_mono hj hji
      rw [H.1] at this
      cases this
  | succ f ih =>
    intro l a w0 hlR hl0 hfree hr hz H
    refine ⟨λ h => (by rw [h] at hr; cases hr), λ j hj => ?_⟩
    by_cases hji : j = i
    · subst hji; exact ⟨oi, hi, .inl ⟨hk, v, z1 _ _ hz, H⟩⟩
    · obtain ⟨oj, hoj, h1⟩ := H.2 j (ready_mono hj hji)
      obtain ⟨hjun, oj', hoj', hall⟩ := mem_ready.1 hj
      obtain rfl : oj' = oj := by rw [hoj] at hoj'; exact (Option.some.inj hoj').symm
      have hnot : ∀ e ∈ oj'.after, Region.binds .any e = true → e.on ≠ i := λ e he hb heq => by
        have h1 := hall e he hb
        have h0 := (mem_ready.1 hr).1
        rw [heq] at h1
        rcases Nat.lt_or_ge i l.size with h' | h'
        · simp [h'] at h0 h1; rw [h0] at h1; cases h1
        · simp [Array.getElem?_eq_none h'] at h1
      have hap := hfree j oj' hoj hji hjun hnot
      obtain ⟨a1, a2, a3⟩ := Oper.apart_spec hap
      have hsi : ∀ cs b, oi.op ≠ .select cs b := λ cs b => hsel i oi cs b hi
      have hsj : ∀ cs b, oj'.op ≠ .select cs b := λ cs b => hsel j oj' cs b hoj
      have keep : ∀ w1 a u, Z w1 a → Z w1 (a.put oj'.dst u) := λ w1 a u hz => z2 _ _ _ hz (execOp_put oi hsi a oj'.dst u a3) (wanted_put oi a oj'.dst u a3)
      have hRj : R j = true := hR j oj' hoj hji λ e he hb => hlR _ (hall e he hb)
      have hlR' : ∀ k, (l.setIfInBounds j true).getD k false = true → R k = true := λ k hk => by
        by_cases hjk : j = k
        · rw [← hjk]; exact hRj
        · rw [getD_set_ne false hjk] at hk; exact hlR k hk
      have hl0' : ∀ k, l0.getD k true = true → (l.setIfInBounds j true).getD k true = true := λ k hk => by
        by_cases hjk : j = k
        · subst hjk
          rcases Nat.lt_or_ge j l.size with h' | h'
          · simp [h']
          · simp [Array.getElem?_eq_none h']
        · rw [getD_set_ne true hjk]; exact hl0 k hk
      have hfree' : ∀ k ok, ops[k]? = some ok → k ≠ i → (l.setIfInBounds j true).getD k true = false →
          (∀ e ∈ ok.after, Region.binds .any e = true → e.on ≠ i) → oi.apart ops ok = true := λ k ok hk hki hun hno => by
        refine hfree k ok hk hki ?_ hno
        by_cases hjk : j = k
        · subst hjk; exact hjun
        · rw [getD_set_ne true hjk] at hun; exact hun
      have hri := ready_mono hr (Ne.symm hji)
      rcases h1 with ⟨hkj, u, hq, hK⟩ | ⟨hkj, h1⟩
      · refine ⟨oj', hoj, .inl ⟨hkj, u, hq.of_same (execOp_put oj' hsj a oi.dst v a1).symm (wanted_put oj' a oi.dst v a1).symm, ?_⟩⟩
        refine ih _ _ _ hlR' hl0' hfree' hri (keep _ _ _ hz) ?_
        rw [Array.setIfInBounds_comm _ _ hji, ← Act.put_comm a v u a2]
        exact hK
      · refine ⟨oj', hoj, .inr ⟨hkj, λ w hw => ?_⟩⟩
        refine wpOp_mono (λ a' w' h3 => ⟨h3.2.1, ?_⟩) (wpOp_putZ (Z := Z w0) hoj a1 a2 hsj hQ (keep w0) (λ a d hz => z2 _ _ _ hz rfl rfl) hz (h1 w hw))
        have hzw : Z w' a' := by
          rcases Nat.lt_or_ge (kd j) 3 with hlt | hge
          · exact z3 _ _ _ (h3.2.1 (by omega)) h3.1
          · rcases hB with hB | hB
            · exact hB _ _ _ h3.1
            · have := hl0 j (hB j hRj hge); rw [hjun] at this; cases this
        refine ih _ _ _ hlR' hl0' hfree' hri hzw ?_
        rw [Array.setIfInBounds_comm _ _ hji]
        exact h3.2.2
def wpFlowM (bM : Nat) (gM : QF) (P : Program) (ops : Array Oper) (Q : Exit → Act → World → Prop) (kd : Nat → Nat) : List Nat → Act → World → Prop
  | [], a, w0 => ∀ w, Ext w0 w → Q .normal a w
  | i :: r, a, w0 => ∃ o, ops[i]? = some o ∧
      ((kd i = 0 ∧ ∃ v, QInM bM gM P ops w0 o v a ∧ wpFlowM bM gM P ops Q kd r (a.put o.dst v) w0) ∨
       (kd i = 1 ∧ ∃ v, Yields P ops o v a ∧ wpFlowM bM gM P ops Q kd r (a.put o.dst v) w0) ∨
       (1 < kd i ∧ ∀ w, Ext w0 w → wpOp P ops Q i (λ a' w' => (kd i = 2 → RM bM gM w0 w') ∧ wpFlowM bM gM P ops Q kd r a' w') a w))
theorem any_of_flowM (hs : Region.noSelect ops = true) (hQ : ∀ c a w, ¬ Q (.panic c) a w) : ∀ (r : List Nat) (l : Array Bool) (a : Act) (w0 : World), l.size = ops.size → flowB ops kd r l = true → wpFlowM bM gM P ops Q kd r a w0 → anyFM bM gM P ops Q kd r.length l a w0
  | [], l, a, w0, _, hB, h => ⟨by simpa [flowB] using hB, h⟩
  | i :: r, l, a, w0, hl, hB, h => by
    obtain ⟨o, ho, h⟩ := h
    have hsel := Region.noSelect_spec hs
    rcases h with ⟨hk, v, hq, hK⟩ | ⟨hk, v, hq, hK⟩ | ⟨hk, h⟩
    · simp only [flowB, hk, Bool.and_eq_true] at hB
      obtain ⟨⟨⟨hf, hr⟩, hb⟩, hB⟩ := hB
      obtain ⟨R, r1, r2, r3⟩ := barOk_spec hl hb
      exact firstFM ho (by omega) hsel hQ (λ w0 a => QInM bM gM P ops w0 o v a) (λ _ _ h => h) (λ _ _ _ h he hw => h.of_same he hw) (λ _ _ _ hx h => h.on hx) R l r1 (.inr r3) _ _ _ _ r2 (λ _ h => h) (Region.free_spec ho hf) (by simpa using hr) hq
        (any_of_flowM hs hQ r _ _ _ (by simpa using hl) hB hK)
    · simp only [flowB, hk, Bool.and_eq_true] at hB
      obtain ⟨⟨hf, hr⟩, hB⟩ := hB
      exact firstFM ho (by omega) hsel hQ (λ _ a => Yields P ops o v a) (λ _ _ h => Yields.qinM h) (λ _ _ _ h he hw => h.of_same he hw) (λ _ _ _ _ h => h) (λ _ => true) l (λ _ _ _ _ _ => rfl) (.inl λ _ _ _ h => h) _ _ _ _ (λ _ _ => rfl) (λ _ h => h) (Region.free_spec ho hf) (by simpa using hr) hq
        (any_of_flowM hs hQ r _ _ _ (by simpa using hl) hB hK)
    · obtain ⟨k, hk2⟩ : ∃ k, kd i = k + 2 := ⟨kd i - 2, by omega⟩
      simp only [flowB, hk2, Bool.and_eq_true, beq_iff_eq] at hB
      obtain ⟨hr, hB⟩ := hB
      refine ⟨λ h0 => (by rw [hr] at h0; cases h0), λ j hj => ?_⟩
      rw [hr] at hj
      obtain rfl : j = i := by simpa using hj
      exact ⟨o, ho, .inr ⟨hk, λ w hw => wpOp_mono (λ a' w' h3 => ⟨h3.1, any_of_flowM hs hQ r _ _ _ (by simpa using hl) hB h3.2⟩) (h w hw)⟩⟩
theorem region_flowM {id : Nat} {a : Act} {w : World} (τ : List Nat) (hm : P.follows .mixedOrders = true) (hB : (Region.noSelect ops && (τ.length == ops.size) && flowB ops kd τ (Array.replicate ops.size false)) = true)
    (h : wpFlowM bM gM P ops (nrm (Q .normal)) kd τ a w) : (Code.region id ops true).wp P Q a w := by
  simp only [Bool.and_eq_true, beq_iff_eq] at hB
  obtain ⟨⟨hs, hl⟩, hB⟩ := hB
  refine wp_mono (wp_region_any hm (Q := nrm (Q .normal)) ?_) (λ e a w hq => by cases e <;> first | exact hq | exact hq.elim)
  have := any_of_flowM (P := P) hs (Q := nrm (Q .normal)) (λ _ _ _ h => h) τ (Array.replicate ops.size false) a w (by simp) hB h
  rw [hl] at this
  exact any_of_FM _ _ _ _ this _ (Below.refl _ w).drew
end
section
variable {bM : Nat} {gM : QF} {P : Program} {n : Nat} {E E' : List (Nat × Value)} {a : Act} {w w' w0 w1 : World} {Q : Exit → Act → World → Prop} {ops : Array Oper} {v : Value} {kd : Nat → Nat}
variable {d : Option Nat} {ty : TypeId} {pos : String} {af : Array Edge} {g : Option (Nat × Bool)} {x y z : Operand} {t : TypeId} {rest : List Oper} {τ : List Nat} {i : Nat}
def FLM (bM : Nat) (gM : QF) (P : Program) (n : Nat) (ops : Array Oper) (Q : Exit → Act → World → Prop) (kd : Nat → Nat) (τ : List Nat) (E : List (Nat × Value)) (w0 : World) : Prop := ∀ a, Agr n E a → wpFlowM bM gM P ops (nrm (Q .normal)) kd τ a w0
theorem rdM {id : Nat} (bM : Nat) (gM : QF) (ks : List (Nat × Nat)) (τ : List Nat) (hm : P.follows .mixedOrders = true) (hB : (Region.noSelect ops && (τ.length == ops.size) && flowB ops (kds ks) τ (Array.replicate ops.size false)) = true)
    (h : FLM bM gM P n ops Q (kds ks) τ E w) : W P n (.region id ops true) Q E w := λ a ha => region_flowM τ hm hB (h a ha)
theorem fnM (h : ∀ w, Ext w0 w → N n Q E w) : FLM bM gM P n ops Q kd [] E w0 := λ a ha w hw => h w hw a ha
theorem fqM {d : Nat} {op : Op} (hi : ops[i]? = some ⟨some d, op, ty, pos, af, none⟩) (hk : kd i = 0) (hr : ∀ w, RM bM gM w0 w → Runs P E ⟨some d, op, ty, pos, af, none⟩ w v w) (hd : Nat.blt d n = true)
    (h : FLM bM gM P n ops Q kd τ ((d, v) :: E) w0) : FLM bM gM P n ops Q kd (i :: τ) E w0 := λ a ha =>
  ⟨_, hi, .inl ⟨hk, v, .inl ⟨wanted_none rfl, λ w hw => by rw [hr w hw n a ha]; exact ⟨rfl, rfl⟩⟩, h _ (ha.put hd v)⟩⟩
theorem fwM {d : Nat} {op : Op} (hi : ops[i]? = some ⟨some d, op, ty, pos, af, none⟩) (hk : kd i = 1) (hr : ∀ w, Runs P E ⟨some d, op, ty, pos, af, none⟩ w v w) (hd : Nat.blt d n = true)
    (h : FLM bM gM P n ops Q kd τ ((d, v) :: E) w0) : FLM bM gM P n ops Q kd (i :: τ) E w0 := λ a ha =>
  ⟨_, hi, .inr (.inl ⟨hk, v, .inl ⟨wanted_none rfl, λ w => hr w n a ha⟩, h _ (ha.put hd v)⟩)⟩
theorem fxM {o : Oper} (hg : o.guard = none) (hi : ops[i]? = some o) (hk : kd i = 2) (h : ∀ w, Ext w0 w → Stp P n ops o E w λ E' w' => RM bM gM w0 w' ∧ FLM bM gM P n ops Q kd τ E' w') : FLM bM gM P n ops Q kd (i :: τ) E w0 := λ a ha =>
  ⟨_, hi, .inr (.inr ⟨by omega, λ w hw => stp_op hg hi (h w hw) (λ E' w' a' hk ha' => ⟨λ _ => hk.1, hk.2 a' ha'⟩) ha⟩)⟩
theorem fbM {o : Oper} (hg : o.guard = none) (hi : ops[i]? = some o) (hk : kd i = 3) (h : ∀ w, Ext w0 w → Stp P n ops o E w λ E' w' => FLM bM gM P n ops Q kd τ E' w') : FLM bM gM P n ops Q kd (i :: τ) E w0 := λ a ha =>
  ⟨_, hi, .inr (.inr ⟨by omega, λ w hw => stp_op hg hi (h w hw) (λ E' w' a' hk ha' => ⟨λ h2 => by omega, hk a' ha'⟩) ha⟩)⟩
end
def prsN : Nat → List Pr
  | 0 => []
  | n + 1 => prsN n ++ (List.range n).map λ i => ⟨(i : Int), (n : Int)⟩
theorem prsN_mem {x : Pr} : ∀ {N : Nat}, x ∈ prsN N ↔ 0 ≤ x.a ∧ x.a < x.b ∧ x.b < N
  | 0 => by simp [prsN]; omega
  | n + 1 => by
    rw [prsN, List.mem_append, prsN_mem (N := n), List.mem_map]
    constructor
    · rintro (h | ⟨i, hi, rfl⟩)
      · omega
      · rw [List.mem_range] at hi; dsimp only; omega
    · rintro ⟨h1, h2, h3⟩
      by_cases h : x.b < n
      · exact .inl ⟨h1, h2, h⟩
      · refine .inr ⟨x.a.toNat, by rw [List.mem_range]; omega, ?_⟩
        obtain ⟨a, b⟩ := x
        dsimp only at *
        rw [Pr.mk.injEq]; omega
theorem prsN_nodup : ∀ N, (prsN N).Nodup
  | 0 => List.nodup_nil
  | n + 1 => by
    rw [prsN, List.nodup_append]
    refine ⟨prsN_nodup n, ?_, λ a ha b hb e => ?_⟩
    · unfold List.Nodup; rw [List.pairwise_map]
      refine List.nodup_range.imp λ h e => h ?_
      injection e with e1 _; omega
    · have h := prsN_mem.1 ha
      obtain ⟨i, hi, rfl⟩ := List.mem_map.1 hb
      subst e; dsimp only at h; omega
theorem prsN_len : ∀ N, 2 * (prsN N).length + N = N * N
  | 0 => rfl
  | n + 1 => by
    have h := prsN_len n
    have e : (n + 1) * (n + 1) = n * n + 2 * n + 1 := by rw [Nat.add_mul, Nat.mul_add]; omega
    rw [prsN, List.length_append, List.length_map, List.length_range, e]; omega
theorem mapQ_len {w : World} {b : Nat} {g : QF} (h : MapC w b g) (hc : ∀ x ∈ prsN g.N, g x ≠ 0) (ty : TypeId) : (Builtin.len_ #[27] ty #[.map (some b)]).run Try.prog w = .ok (.int .i64 ((prsN g.N).length : Int)) w := by
  obtain ⟨l, c, h, h2, h3, h4⟩ := h
  have hp : (l.map (·.1)).Perm (prsN g.N) := by
    refine (List.perm_ext_iff_of_nodup h3 (prsN_nodup _)).2 λ x => ⟨λ hx => ?_, λ hx => ?_⟩
    · obtain ⟨e, he, rfl⟩ := List.mem_map.1 hx
      exact prsN_mem.2 (h2 e he).2
    · have h5 := hc x hx
      rw [← h4 x] at h5
      cases hg : MapIs.get l x with
      | none => rw [hg] at h5; exact (h5 rfl).elim
      | some v =>
        rcases Classical.em (x ∈ l.map (·.1)) with hm | hm
        · exact hm
        · exact absurd hg (by
            unfold MapIs.get
            have : l.find? (λ e => decide (e.1 = x)) = none := List.find?_eq_none.2 λ e he hd => hm (List.mem_map.2 ⟨e, he, by simpa using hd⟩)
            rw [this]; intro h; cases h)
  have hl : l.length = (prsN g.N).length := by have := hp.length_eq; rwa [List.length_map] at this
  have hb := h.blk
  simp [Builtin.len_, run_underlying mapC_und, MapKept.run_getObj_map hb, goInt, Result.andThen, hl]
theorem lnQ {E : List (Nat × Value)} {d : Option Nat} {x : Operand} {ty : TypeId} {pos : String} {af : Array Edge} {gd : Option (Nat × Bool)} {w : World} {b : Nat} {g : QF} (h : MapC w b g) (hc : ∀ x ∈ prsN g.N, g x ≠ 0) (hx : ev E x = some (.map (some b))) : Runs Try.prog E ⟨d, .call { callee := .builtin .len, args := #[x], argTypes := #[27] }, ty, pos, af, gd⟩ w (.int .i64 ((prsN g.N).length : Int)) w :=
  bi (vs := [.map (some b)]) (by simp only [evs, hx]) λ cs => by
    have := mapQ_len h hc ty
    simp only [builtin, Sem.run_bind, this, Result.andThen_ok, Sem.run_pure]
end
section
open Go.RowKit Go.Proofs.Ytifffjhhammeiaa.Mt
theorem rnd_mem {n M r : Nat} {x : Pr} : ∀ {K : Nat}, x ∈ rndK n M r K ↔ ∃ k, k < K ∧ (meetP M r k).2 < n ∧ x = ⟨((meetP M r k).1 : Nat), ((meetP M r k).2 : Nat)⟩
 | 0 => by simp [rndK]
 | K + 1 => by
  rw [rndK, app]
  split
  ·rename_i h
   rw [List.mem_append, rnd_mem (K := K), List.mem_singleton]
   constructor
   ·rintro (⟨k, h1, h2, h3⟩ | h3)
    ·exact ⟨k, by omega, h2, h3⟩
    ·exact ⟨K, by omega, h, h3⟩
   ·rintro ⟨k, h1, h2, h3⟩
    by_cases e : k = K
    ·subst e; exact .inr h3
    ·exact .inl ⟨k, by omega, h2, h3⟩
  ·rename_i h
   rw [rnd_mem (K := K)]
   constructor
   ·rintro ⟨k, h1, h2, h3⟩; exact ⟨k, by omega, h2, h3⟩
   ·rintro ⟨k, h1, h2, h3⟩
    by_cases e : k = K
    ·subst e; exact absurd h2 h
    ·exact ⟨k, by omega, h2, h3⟩
def two (l : List Pr) : List Int := l.flatMap λ p => [p.a, p.b]
theorem two_app (l m : List Pr) : two (l ++ m) = two l ++ two m := List.flatMap_append ..
theorem two_one (p : Pr) : two [p] = [p.a, p.b] := rfl
theorem two_mem {l : List Pr} {i : Int} : i ∈ two l ↔ ∃ p ∈ l, i = p.a ∨ i = p.b := by unfold two; rw [List.mem_flatMap]; simp
theorem two_perm {l m : List Pr} (h : l.Perm m) : (two l).Perm (two m) := by
 induction h with
 | nil => exact .rfl
 | cons x _ ih => exact ih.append_left [x.a, x.b]
 | swap x y l => exact (List.perm_append_comm (l₁ := [y.a, y.b]) (l₂ := [x.a, x.b])).append_right (two l)
 | trans _ _ i1 i2 => exact i1.trans i2
section
variable {n M K r : Nat}
theorem rnd_pair (hM : M + 1 = n + n % 2) (hK : 2 * K = M + 1) (hr : r < M) {x : Pr} (h : x ∈ rndK n M r K) : 0 ≤ x.a ∧ x.a < x.b ∧ x.b < n := by
 obtain ⟨k, h1, h2, rfl⟩ := rnd_mem.1 h
 have := meet_lt (k := k) hr (by omega)
 dsimp only; omega
theorem rnd_two (hM : M + 1 = n + n % 2) (hK : 2 * K = M + 1) (hr : r < M) : ∀ {k : Nat}, k ≤ K → (two (rndK n M r k)).Nodup
 | 0, _ => List.nodup_nil
 | k + 1, hk => by
  rw [rndK, app]
  split
  ·rw [two_app, List.nodup_append]
   have hl := meet_lt (k := k) hr (by omega)
   refine ⟨rnd_two hM hK hr (by omega), ?_, ?_⟩
   ·rw [two_one]; simp; omega
   ·intro a ha b hb e
    subst e
    obtain ⟨p, hp, hpa⟩ := two_mem.1 ha
    obtain ⟨k', h1, h2, rfl⟩ := rnd_mem.1 hp
    have := @meet_once M r k k' hr (by omega) (by omega)
    rw [two_one] at hb
    simp at hb hpa
    omega
  ·exact rnd_two hM hK hr (by omega)
theorem rnd_other (hM : M + 1 = n + n % 2) (hK : 2 * K = M + 1) {r' : Nat} (hr : r < M) (hr' : r' < M) {x : Pr} (h : x ∈ rndK n M r K) (h' : x ∈ rndK n M r' K) : r = r' := by
 obtain ⟨k, h1, h2, e⟩ := rnd_mem.1 h
 obtain ⟨k', h1', h2', e'⟩ := rnd_mem.1 h'
 have he : meetP M r k = meetP M r' k' := by
  rw [e, Pr.mk.injEq] at e'
  exact Prod.ext (by omega) (by omega)
 exact (meet_round (by omega) hr hr' (by omega) (by omega) he).1
theorem rnd_all (hM : M + 1 = n + n % 2) (hK : 2 * K = M + 1) {x : Pr} (h0 : 0 ≤ x.a) (h1 : x.a < x.b) (h2 : x.b < n) : ∃ r, r < M ∧ x ∈ rndK n M r K := by
 obtain ⟨xa, xb⟩ := x
 obtain ⟨a, rfl⟩ : ∃ a : Nat, xa = a := ⟨xa.toNat, by dsimp only at h0; omega⟩
 obtain ⟨b, rfl⟩ : ∃ b : Nat, xb = b := ⟨xb.toNat, by dsimp only at h0 h1; omega⟩
 dsimp only at h0 h1 h2
 have key : ∃ r k, r < M ∧ k < K ∧ meetP M r k = (a, b) := by
  by_cases hb : b = M
  ·subst hb
   refine ⟨a, 0, by omega, by omega, ?_⟩
   unfold meetP rawP; rw [if_pos rfl]; unfold ord; dsimp only; rw [Nat.min_eq_right (by omega), Nat.max_eq_left (by omega)]
  ·have hbM : b < M := by omega
   by_cases hp : (a + b) % 2 = 0
   ·refine ⟨(a + b) / 2, (b - a) / 2, by omega, by omega, ?_⟩
    unfold meetP rawP; rw [if_neg (by omega), add_mod (by omega) (by omega), sub_mod (by omega) (by omega) (by omega)]
    unfold addm subm; rw [if_pos (by omega), if_pos (by omega)]; unfold ord; dsimp only
    rw [Nat.min_eq_right (by omega), Nat.max_eq_left (by omega)]; exact Prod.ext (by dsimp only; omega) (by dsimp only; omega)
   ·obtain ⟨k, hk⟩ : ∃ k, 2 * k + b = M + a := ⟨(M + a - b) / 2, by omega⟩
    by_cases hc : b + k < M
    ·refine ⟨b + k, k, hc, by omega, ?_⟩
     unfold meetP rawP; rw [if_neg (by omega), add_mod (by omega) (by omega), sub_mod (by omega) (by omega) (by omega)]
     unfold addm subm; rw [if_neg (by omega), if_pos (by omega)]; unfold ord; dsimp only
     rw [Nat.min_eq_left (by omega), Nat.max_eq_right (by omega)]; exact Prod.ext (by dsimp only; omega) (by dsimp only; omega)
    ·refine ⟨b + k - M, k, by omega, by omega, ?_⟩
     unfold meetP rawP; rw [if_neg (by omega), add_mod (by omega) (by omega), sub_mod (by omega) (by omega) (by omega)]
     unfold addm subm; rw [if_pos (by omega), if_neg (by omega)]; unfold ord; dsimp only
     rw [Nat.min_eq_left (by omega), Nat.max_eq_right (by omega)]; exact Prod.ext (by dsimp only; omega) (by dsimp only; omega)
 obtain ⟨r, k, hr, hk, e⟩ := key
 exact ⟨r, hr, rnd_mem.2 ⟨k, hk, by rw [e]; dsimp only; omega, by rw [e]⟩⟩
end
def doneL (n M K r : Nat) : List Pr := (List.range r).flatMap λ j => rndK n M j K
theorem doneL_succ {n M K r : Nat} : doneL n M K (r + 1) = doneL n M K r ++ rndK n M r K := by unfold doneL; rw [List.range_succ, List.flatMap_append]; simp
theorem doneL_mem {n M K r : Nat} {x : Pr} : x ∈ doneL n M K r ↔ ∃ j, j < r ∧ x ∈ rndK n M j K := by unfold doneL; rw [List.mem_flatMap]; simp
def metF (N : Nat) (l : List Pr) : QF := ⟨N, λ x => if x ∈ l then 1 else 0⟩
theorem metF_nil (N : Nat) : qf0 N = metF N [] := by unfold qf0 metF; simp
theorem metF_congr {N : Nat} {l m : List Pr} (h : ∀ x, x ∈ l ↔ x ∈ m) : metF N l = metF N m := by unfold metF; congr 1; funext x; simp [h x]
theorem metF_no {N : Nat} {l : List Pr} {x : Pr} (h : x ∉ l) : (metF N l) x = 0 := if_neg h
theorem metF_yes {N : Nat} {l : List Pr} {x : Pr} (h : x ∈ l) : (metF N l) x = 1 := if_pos h
theorem metF_up {N : Nat} {l : List Pr} {x : Pr} (h : x ∉ l) : upC (metF N l) x ((metF N l) x + 1) = metF N (l ++ [x]) := by
 rw [metF_no h]
 unfold upC metF; congr 1; funext y
 by_cases e : y = x
 ·subst e; simp
 ·simp [e]
theorem up_self {g : QF} {x : Pr} {v : Int} : (upC g x v) x = v := if_pos rfl
section
variable {n M K r k : Nat} {l : List Pr} {p : Pr}
theorem take_snocP (h : l[k]? = some p) : l.take (k + 1) = l.take k ++ [p] := by
 obtain ⟨hk, rfl⟩ := List.getElem?_eq_some_iff.1 h
 exact List.take_succ_eq_append_getElem hk
theorem once_fresh (hM : M + 1 = n + n % 2) (hK : 2 * K = M + 1) (hr : r < M) (hl : l.Perm (rndK n M r K)) (hp : l[k]? = some p) :
  p ∈ rndK n M r K ∧ p.a ∉ two (l.take k) ∧ p.b ∉ two (l.take k) ++ [p.a] ∧ p ∉ doneL n M K r ++ l.take k := by
 obtain ⟨hk, rfl⟩ := List.getElem?_eq_some_iff.1 hp
 have hm : l[k] ∈ rndK n M r K := hl.mem_iff.1 (List.getElem_mem hk)
 have hab := rnd_pair hM hK hr hm
 have hn : (two l).Nodup := (two_perm hl).nodup_iff.2 (rnd_two hM hK hr (Nat.le_refl _))
 rw [← List.take_append_drop k l, two_app, List.drop_eq_getElem_cons hk, List.nodup_append] at hn
 have h1 : l[k].a ∉ two (l.take k) := λ h => hn.2.2 _ h _ (two_mem.2 ⟨l[k], List.mem_cons_self, .inl rfl⟩) rfl
 have h2 : l[k].b ∉ two (l.take k) := λ h => hn.2.2 _ h _ (two_mem.2 ⟨l[k], List.mem_cons_self, .inr rfl⟩) rfl
 refine ⟨hm, h1, ?_, ?_⟩
 ·rw [List.mem_append, List.mem_singleton]
  rintro (h | h)
  ·exact h2 h
  ·omega
 ·rw [List.mem_append]
  rintro (h | h)
  ·obtain ⟨j, hj, h⟩ := doneL_mem.1 h
   have := rnd_other hM hK hr (by omega) hm h
   omega
  ·exact h1 (two_mem.2 ⟨_, h, .inl rfl⟩)
theorem met_end (hl : l.Perm (rndK n M r K)) : metF n (doneL n M K r ++ l) = metF n (doneL n M K (r + 1)) := metF_congr λ x => by
 rw [doneL_succ, List.mem_append, List.mem_append, hl.mem_iff]
theorem met_all (hM : M + 1 = n + n % 2) (hK : 2 * K = M + 1) : ∀ x ∈ prsN (metF n (doneL n M K M)).N, (metF n (doneL n M K M)) x ≠ 0 := by
 intro x hx
 obtain ⟨h1, h2, h3⟩ := prsN_mem.1 hx
 obtain ⟨r, hr, h⟩ := rnd_all hM hK h1 h2 h3
 rw [metF_yes (doneL_mem.2 ⟨r, hr, h⟩)]; decide
end
theorem prs_half (N : Nat) : (N : Int) * ((N : Int) - 1) = 2 * ((prsN N).length : Int) := by
 have h := prsN_len N
 have e : ((N * N : Nat) : Int) = (N : Int) * (N : Int) := by simp
 rw [Int.mul_sub, ← e, ← h]; omega
theorem prs_bd {N : Nat} (h : N ≤ 64) : (prsN N).length ≤ 2016 := by
 have h1 := prsN_len N
 have h2 : N * N ≤ 64 * N := Nat.mul_le_mul_right N h
 omega
end
section
open Go.RowKit
theorem MlE_ib_bool : (Try.prog.info? 4).map (λ i => (i.zero, i.size, i.bytes)) = some (some (.bool false), 1, 1) := by kernel_rfl
open Go.Proofs.Ytifffjhhammeiaa.Mt
theorem rounds_good (N M K : Nat) (w : World) (hN : 2 ≤ N ∧ N ≤ 64) (hM : M + 1 = N + N % 2) (hK : 2 * K = M + 1) : Calls Try.prog 12 #[.int .i64 (N : Int)] w (λ e w' => ∃ A' c' T L ba X, e = .returned (.tuple #[.slice A' (T : List SV).length c', .int .i64 0]) ∧ (T.length = M ∧ L.length = M ∧ ∀ (j : Nat) (l : List Pr), L[j]? = some l → l.Perm (rndK N M j K)) ∧ svRep.SOwn 28 24 w' w.heap.size (Rep.blkOf A') A' c' T ∧ PT w' w.heap.size ba X T L ∧ Ext w w') := by
 refine (rounds_any N w).mono ?_
 rintro e w' ⟨e', A, c, T, L, ba, X, rfl, hR, hT, hP, hx⟩
 rcases hR with ⟨rfl, h2, h3, h4, N', M', K', hN', hM', hK', hL, hl⟩ | ⟨_, h, _⟩
 ·obtain rfl : N' = N := by omega
  obtain rfl : M' = M := by omega
  obtain rfl : K' = K := by omega
  exact ⟨A, c, T, L, ba, X, rfl, ⟨by omega, hL, hl⟩, hT, hP, hx⟩
 ·omega
theorem rounds_not (n : Int) (w : World) (hn : n < 2 ∨ 64 < n) : Calls Try.prog 12 #[.int .i64 n] w (λ e w' => ∃ A' N' c', e = .returned (.tuple #[.slice A' N' c', .int .i64 1]) ∧ Ext w w') := by
 refine (rounds_any n w).mono ?_
 rintro e w' ⟨e', A, c, T, L, ba, X, rfl, hR, hT, hP, hx⟩
 rcases hR with ⟨rfl, h2, h3, _⟩ | ⟨rfl, _⟩
 ·omega
 ·exact ⟨A, _, c, rfl, hx⟩
theorem once_end {N M : Nat} {T : List SV} (hM : M + 1 = N + N % 2) (hN : 2 ≤ N ∧ N ≤ 64) (hT : T.length = M) : ((((prsN N).length : Int) == ((N : Int) * ((N : Int) - 1)) / 2) && ((T.length : Int) == ((N : Int) - 1) + ((N : Int) % 2))) = true := by
 rw [prs_half N, hT]; simp; omega
theorem matchOnce_bad (n : Int) (w : World) (hn : n < 2 ∨ 64 < n) :
  Calls Try.prog 3 #[.int .i64 n] w (λ e w' => e = .returned (.bool true) ∧ Ext w w') := by
 refine calls_W (n := 111) Try.func3 rfl rfl rfl ?_
 refine sg <| va rfl <| nK <| sg <| vm rfl <| ca eF26 rfl rfl ((rounds_not _ _ hn).mono ?_)
 rintro e w_1 ⟨A1, N1, c1, rfl, x_2⟩
 refine ⟨_, rfl, ?_⟩
 have := x_2.size
 have z_1 := eT (Ext.rf w) x_2
 refine vm rfl <| vL (ex rfl rfl) <| vL (ex rfl rfl) <| va rfl <| va rfl <| nK <| sq <| sg <| ca eF29 rfl rfl ((matchLives_any _).mono ?_)
 rintro e w_4 ⟨rfl, x_5⟩
 refine ⟨_, rfl, ?_⟩
 have := x_5.size
 have z_4 := eT z_1 x_5
 refine vL (nt rfl) <| vm rfl <| ug rfl rfl rfl <| vm rfl <| ug rfl rfl rfl <| vL (bne rfl rfl) <| vL (pkF rfl rfl) <| nK <| cT rfl <| sg <| ca eF29 rfl rfl ((matchLives_any _).mono ?_)
 rintro e w_7 ⟨rfl, x_8⟩
 refine ⟨_, rfl, ?_⟩
 have := x_8.size
 have z_7 := eT z_4 x_8
 refine va rfl <| nK <| rt <| tT <| tR (.tmp rfl .nil) <| ?_
 exact ⟨rfl, z_7⟩
theorem matchOnce_ok (N M K : Nat) (w : World) (hN : 2 ≤ N ∧ N ≤ 64) (hM : M + 1 = N + N % 2) (hK : 2 * K = M + 1) :
  Calls Try.prog 3 #[.int .i64 (N : Int)] w (λ e w' => e = .returned (.bool true) ∧ Ext w w') := by
 have hpb := prs_bd hN.2
 have hph := prs_half N
 refine calls_W (n := 111) Try.func3 rfl rfl rfl ?_
 refine sg <| va rfl <| nK <| sg <| vm rfl <| ca eF26 rfl rfl ((rounds_good N M K _ hN hM hK).mono ?_)
 rintro e w_3 ⟨AT, cT, T, L, ba, X, rfl, ⟨hTl, hLl, hLp⟩, HT, HP, x_4⟩
 refine ⟨_, rfl, ?_⟩
 have := x_4.size
 have z_3 := eT (Ext.rf w) x_4
 have u_1 := λ q hq => (HT.lt q hq).2
 have lo_2 := λ q hq => (HT.lt q hq).1
 have hXw := HP.le
 refine vm rfl <| vL (ex rfl rfl) <| vL (ex rfl rfl) <| va rfl <| va rfl <| nK <| sq <| sg <| ca eF29 rfl rfl ((matchLives_any _).mono ?_)
 rintro e w_6 ⟨rfl, x_7⟩
 refine ⟨_, rfl, ?_⟩
 have := x_7.size
 have z_6 := eT z_3 x_7
 refine vL (nt rfl) <| vm rfl <| ug rfl rfl rfl <| vm rfl <| ug rfl rfl rfl <| vL (bne rfl rfl) <| vL (pkF rfl rfl) <| nK <| cF rfl <| sK <| sg <| mm rfl λ w_9 r_10 x_11 l_12 M_13 => ?_
 have := x_11.size
 have z_9 := eT z_6 x_11
 have q_15 := M_13.lt
 have C_16 := MapC.of_nil N M_13
 refine va rfl <| nK <| sq <| sg <| vm rfl <| vL (ln Try.underlying22 rfl) <| vm rfl <| nK <| bk <| ?_
 have HT := HT.later (eT x_7 x_11)
 have HP := HP.later (eT x_7 x_11)
 refine lp (λ mI EI wI => ∃ r : Nat, EI = [(0, .int .i64 (N : Int)), (3, .slice AT T.length cT), (5, .map (some r_10)), (24, .slice AT T.length cT), (25, .int .i64 (T.length : Int)), (26, .int .i64 (r : Int))] ∧ mI = M - r ∧ Ext w wI ∧ svRep.SOwn 28 24 wI w.heap.size (Rep.blkOf AT) AT cT (T) ∧ PT wI w.heap.size ba X T L ∧ MapC wI r_10 (metF N (doneL N M K r)) ∧ (r ≤ M)) _ _ ⟨0, rfl, rfl, z_9, HT, HP, (by rw [show doneL N M K 0 = [] from rfl, ← metF_nil]; exact C_16), by omega⟩ (.cons rfl (.cons rfl (.cons rfl (.cons rfl (.cons rfl (.cons (loI rfl (by first | omega | rfl | (simp <;> omega))) .nil)))))) ?_
 rintro m_18 E_19 w_17 ⟨r, rfl, rfl, z_17, HT, HP, HM1, hr⟩
 have := z_17.size
 have u_21 := λ q hq => (HT.lt q hq).2
 have q_22 := HM1.lt
 refine sg <| vL (blt rfl rfl) <| nK <| sq <| ?_
 refine clt rfl (λ h_23 => ?_) (λ h_23 => ?_)
 ·obtain ⟨lr, hlr⟩ : ∃ lr, L[r]? = some lr := ⟨_, List.getElem?_eq_getElem (by omega)⟩
  obtain ⟨Ar, cr, hTr, HLr, hqr⟩ := HP.2.2 r lr hlr
  have uLr : ∀ q ∈ Rep.blkOf Ar, q < X := λ q hq => (hqr q hq).2
  have hper := hLp r lr hlr
  have hlen : lr.length = N / 2 := by rw [hper.length_eq]; exact rnd_full hM hK hN.1 (by omega)
  have hrM : r < M := by omega
  refine sK <| sq <| bk <| sg <| vL (iA r Try.underlying22 eF15 rfl rfl (HT.has.adr (zl r (by omega))) rfl (by omega)) <| vL (v := .slice Ar lr.length cr) (ld rfl (Rep.SHas.one' hcV (HT.has.adh (zl r (by omega))) hTr rfl eF16)) <| va rfl <| nK <| sg <| vm rfl <| mO (R := repB) (by_ := 1) (B := w.heap.size) (c := N) (zv := (.bool false)) (q := false) Rep.flat_plain Try.underlying29 MlE_ib_bool rfl rfl (λ j u h => raw0B j u h) (λ _ => ⟨rfl, trivial⟩) rfl rfl rfl (by omega) (by omega) (by omega) λ w_24 b_25 x_26 l_27 O_28 => ?_
  have := x_26.size
  have z_24 := eT z_17 x_26
  have u_30 := λ q hq => (O_28.lt q hq).2
  have lo_31 : ∀ q ∈ Rep.blkOf (some ⟨b_25, 0, none⟩), b_25 ≤ q := λ q hq => Nat.le_of_eq (List.mem_singleton.1 hq).symm
  refine va rfl <| nK <| sq <| sg <| vm rfl <| vL (ln Try.underlying28 rfl) <| vm rfl <| nK <| bk <| ?_
  have HM1 := HM1.later x_26
  have HT := HT.later x_26
  have HP := HP.later x_26
  have HLr := HLr.later x_26
  refine lp (λ mI EI wI => ∃ k : Nat, EI = [(0, .int .i64 (N : Int)), (3, .slice AT T.length cT), (5, .map (some r_10)), (7, .slice Ar lr.length cr), (8, .slice (some ⟨b_25, 0, none⟩) N N), (24, .slice AT T.length cT), (25, .int .i64 (T.length : Int)), (26, .int .i64 (r : Int)), (27, .bool (decide ((r : Int) < (T.length : Int)))), (28, .pointer (some ⟨bA AT, oA AT + r * 1, none⟩)), (29, .slice Ar lr.length cr), (30, .int .i64 (N : Int)), (31, .slice (some ⟨b_25, 0, none⟩) N N), (32, .slice Ar lr.length cr), (33, .int .i64 (lr.length : Int)), (34, .int .i64 (k : Int))] ∧ mI = lr.length - k ∧ Ext w wI ∧ svRep.SOwn 28 24 wI w.heap.size (Rep.blkOf AT) AT cT (T) ∧ PT wI w.heap.size ba X T L ∧ Pr.rep.SOwn 31 16 wI w.heap.size (Rep.blkOf Ar) Ar cr lr ∧ MapC wI r_10 (metF N (doneL N M K r ++ lr.take k)) ∧ repB.SOwn 4 1 wI w.heap.size (Rep.blkOf (some ⟨b_25, 0, none⟩)) (some ⟨b_25, 0, none⟩) N (seenB N (two (lr.take k))) ∧ (k ≤ lr.length) ∧ (∀ q ∈ Rep.blkOf (some ⟨b_25, 0, none⟩), q = r_10 → False) ∧ (∀ q ∈ Rep.blkOf (some ⟨b_25, 0, none⟩), q ∈ Rep.blkOf AT → False) ∧ (∀ q ∈ Rep.blkOf (some ⟨b_25, 0, none⟩), q ∈ Rep.blkOf Ar → False)) _ _ ⟨0, rfl, rfl, z_24, HT, HP, HLr, (by rw [List.take_zero, List.append_nil]; exact HM1), (by rw [List.take_zero, show two [] = [] from rfl, seen_zero]; exact O_28), by omega, (λ q hq hb => by (have := lo_31 q hq; omega)), (λ q hq hb => by (have := lo_31 q hq; (have := u_21 q hb; have := u_1 q hb; omega))), (λ q hq hb => by (have := lo_31 q hq; (have := uLr q hb; omega)))⟩ (.cons rfl (.cons rfl (.cons rfl (.cons rfl (.cons rfl (.cons rfl (.cons rfl (.cons rfl (.cons rfl (.cons rfl (.cons rfl (.cons rfl (.cons rfl (.cons rfl (.cons rfl (.cons (loI rfl (by first | omega | rfl | (simp <;> omega))) .nil)))))))))))))))) ?_
  rintro m_36 E_37 w_35 ⟨k, rfl, rfl, z_35, HT, HP, HLr, HM2, HB, hk, d_32, d_33, d_34⟩
  have := z_35.size
  have u_39 := λ q hq => (HT.lt q hq).2
  have u_40 := λ q hq => (HLr.lt q hq).2
  have q_41 := HM2.lt
  have u_42 := λ q hq => (HB.lt q hq).2
  refine sg <| vL (blt rfl rfl) <| nK <| sq <| ?_
  refine clt rfl (λ h_43 => ?_) (λ h_43 => ?_)
  ·obtain ⟨p, hp⟩ : ∃ p, lr[k]? = some p := ⟨_, List.getElem?_eq_getElem (by omega)⟩
   obtain ⟨hpm, hf1, hf2, hnew⟩ := once_fresh hM hK hrM hper hp
   have hpp := rnd_pair hM hK hrM hpm
   have hpo := Pr.all_ok HLr.has p (List.mem_of_getElem? hp)
   have hkey : okQ N p := ⟨hpo, hpp⟩
   have k1 : decide (p.a < 0) = false := decide_eq_false (by omega)
   have k2 : decide (p.b ≤ p.a) = false := decide_eq_false (by omega)
   have k3 : decide ((N : Int) ≤ p.b) = false := decide_eq_false (by omega)
   have k4 : decide (p.a ∈ two (lr.take k)) = false := decide_eq_false hf1
   have k5 : decide (p.b ∈ two (lr.take k)) = false := decide_eq_false λ h => hf2 (List.mem_append.2 (.inl h))
   refine sK <| sq <| bk <| sg <| vL (iA k Try.underlying28 eF30 rfl rfl (HLr.has.adr (zl k (by omega))) rfl (by omega)) <| vL (ld rfl (Rep.SHas.elt Mt.hcP (HLr.has.adh (zl k (by omega))) hp eF31 eF30)) <| al rfl eF32 rfl rfl λ w_44 b_45 x_46 l_47 B_48 => ?_
   have := x_46.size
   have z_44 := eT z_35 x_46
   have q_50 := B_48.lt
   refine st (new := [.int .i64 p.a, .int .i64 p.b]) rfl rfl B_48 rfl eF30 rfl rfl rfl λ w_51 m_52 B_48 => ?_
   have := m_52.size
   have z_51 := Ext.mod z_44 m_52 (ge1 (by omega))
   have := m_52.size
   refine nK <| sq <| sg <| vL (fa eF33 rfl) <| vL (ld rfl (B_48.one eF7 rfl)) <| vL (blt rfl rfl) <| vm (evb rfl k1) <| ug rfl rfl rfl <| vL (fa eF33 rfl) <| ug rfl rfl rfl <| vL (ld rfl (B_48.one eF7 rfl)) <| ug rfl rfl rfl <| vL (fa eF34 rfl) <| ug rfl rfl rfl <| vL (ld rfl (B_48.one eF7 rfl)) <| ug rfl rfl rfl <| vL (bge rfl rfl) <| vL (pkF rfl (evb rfl k2)) <| vm rfl <| ug rfl rfl rfl <| vL (fa eF34 rfl) <| ug rfl rfl rfl <| ?_
   refine vL (ld rfl (B_48.one eF7 rfl)) <| ug rfl rfl rfl <| vm rfl <| ug rfl rfl rfl <| vL (bge rfl rfl) <| vL (pkF rfl (evb rfl k3)) <| vm rfl <| ug rfl rfl rfl <| vm rfl <| ug rfl rfl rfl <| vL (fa eF33 rfl) <| ug rfl rfl rfl <| vL (ld rfl (B_48.one eF7 rfl)) <| ug rfl rfl rfl <| ?_
   have HB := HB.later x_46
   have HB := HB.mod m_52 (fk1 u_42 (by omega))
   refine vL (iA p.a.toNat Try.underlying29 eF35 rfl rfl (HB.has.adr (zl p.a.toNat (by first | omega | (rw [seen_len]; omega) | (rw [List.length_set, seen_len]; omega)))) (by omega) (by first | omega | (rw [seen_len]; omega) | (rw [List.length_set, seen_len]; omega))) <| ug rfl rfl rfl <| vL (ld rfl (Rep.SHas.one' hcB (HB.has.adh (zl p.a.toNat (by first | omega | (rw [seen_len]; omega) | (rw [List.length_set, seen_len]; omega)))) (seen_at (by omega) (by omega)) rfl eF36)) <| vL (pkF rfl (evb rfl k4)) <| vm rfl <| ug rfl rfl rfl <| vm rfl <| ug rfl rfl rfl <| vL (fa eF34 rfl) <| ug rfl rfl rfl <| vL (ld rfl (B_48.one eF7 rfl)) <| ug rfl rfl rfl <| vL (iA p.b.toNat Try.underlying29 eF35 rfl rfl (HB.has.adr (zl p.b.toNat (by first | omega | (rw [seen_len]; omega) | (rw [List.length_set, seen_len]; omega)))) (by omega) (by first | omega | (rw [seen_len]; omega) | (rw [List.length_set, seen_len]; omega))) <| ug rfl rfl rfl <| vL (ld rfl (Rep.SHas.one' hcB (HB.has.adh (zl p.b.toNat (by first | omega | (rw [seen_len]; omega) | (rw [List.length_set, seen_len]; omega)))) (seen_at (by omega) (by omega)) rfl eF36)) <| vL (pkF rfl (evb rfl k5)) <| nK <| cF rfl <| sK <| sq <| ?_
   refine rdW (Rep.blkOf (some ⟨b_25, 0, none⟩)) [(2, 0), (5, 0), (7, 2), (9, 2)] [0, 1, 2, 3, 4, 5, 6, 7, 8, 9] (by kernel_rfl) (by kernel_rfl) ?_
   refine fwW rfl rfl (λ _ => mv rfl) rfl <| fwW rfl rfl (λ _ => fa eF33 rfl) rfl <| ?_
   have d_55 : ∀ q ∈ Rep.blkOf (some ⟨b_25, 0, none⟩), q = b_45 → False := λ q hq hb => by (have := u_42 q hq; omega)
   refine fqW rfl rfl (λ _ x => ld rfl ((B_48.mod x (λ hq => d_55 _ hq rfl)).one eF7 rfl)) rfl <| fwW rfl rfl (λ _ => mv rfl) rfl <| fwW rfl rfl (λ _ => fa eF34 rfl) rfl <| fqW rfl rfl (λ _ x => ld rfl ((B_48.mod x (λ hq => d_55 _ hq rfl)).one eF7 rfl)) rfl <| fwW rfl rfl (λ _ => iA p.a.toNat Try.underlying29 eF35 rfl rfl (HB.has.adr (zl p.a.toNat (by first | omega | (rw [seen_len]; omega) | (rw [List.length_set, seen_len]; omega)))) (by omega) (by first | omega | (rw [seen_len]; omega) | (rw [List.length_set, seen_len]; omega))) rfl <| fxW rfl rfl rfl λ w_56 x_57 Q hK => so (q' := true) (j := 0) (i := p.a.toNat) (HB.later x_57) Rep.flat_bare (seen_at (by omega) (by omega)) rfl rfl rfl rfl (λ _ cs h => by have ok_ := (show _ ∧ _ from h).2; obtain rfl := hcB h; exact ⟨rfl, trivial⟩) rfl rfl eF35 λ w_58 m_59 O_60 => hK _ _ ⟨(Mod.of_ext x_57).trans m_59, ?_⟩
   have := x_57.size
   have z_56 := eT z_51 x_57
   have := m_59.size
   have z_58 := Ext.mod z_56 m_59 (λ q hq => ((HB.later x_57).lt q hq).1)
   have := m_59.size
   refine fwW rfl rfl (λ _ => iA p.b.toNat Try.underlying29 eF35 rfl rfl (O_60.has.adr (zl p.b.toNat (by first | omega | (rw [seen_len]; omega) | (rw [List.length_set, seen_len]; omega)))) (by omega) (by first | omega | (rw [seen_len]; omega) | (rw [List.length_set, seen_len]; omega))) rfl <| fxW rfl rfl rfl λ w_64 x_65 Q hK => so (q' := true) (j := 0) (i := p.b.toNat) (O_60.later x_65) Rep.flat_bare (by rw [seen_set (by omega) (by omega)]; exact seen_at (by omega) (by omega)) rfl rfl rfl rfl (λ _ cs h => by have ok_ := (show _ ∧ _ from h).2; obtain rfl := hcB h; exact ⟨rfl, trivial⟩) rfl rfl eF35 λ w_66 m_67 O_68 => hK _ _ ⟨(Mod.of_ext x_65).trans m_67, ?_⟩
   have := x_65.size
   have z_64 := eT z_58 x_65
   have := m_67.size
   have z_66 := Ext.mod z_64 m_67 (λ q hq => ((O_60.later x_65).lt q hq).1)
   have := m_67.size
   refine fnW λ w_72 x_73 => ?_
   have := x_73.size
   have z_72 := eT z_66 x_73
   refine nT <| sq <| ?_
   have HM2 := HM2.later x_46
   have HM2 := HM2.mod m_52 (nm1 (by omega))
   have HM2 := HM2.later x_57
   have HM2 := HM2.mod m_59 (λ hq => d_32 _ hq rfl)
   have HM2 := HM2.later x_65
   have HM2 := HM2.mod m_67 (λ hq => d_32 _ hq rfl)
   have HM2 := HM2.later x_73
   refine rdM r_10 (metF N (doneL N M K r ++ lr.take k)) [(1, 0), (2, 0), (4, 2), (6, 3)] [0, 1, 2, 3, 4, 5, 6] (by kernel_rfl) (by kernel_rfl) ?_
   refine fwM rfl rfl (λ _ => mv rfl) rfl <| ?_
   have B_48 := B_48.later x_57
   have B_48 := B_48.mod m_59 (λ hq => d_55 _ hq rfl)
   have B_48 := B_48.later x_65
   have B_48 := B_48.mod m_67 (λ hq => d_55 _ hq rfl)
   have B_48 := B_48.later x_73
   refine fqM rfl rfl (λ _ x => ld rfl ((B_48.mod x.1 (nm1 (by omega))).all eF31 eF30)) rfl <| fqM rfl rfl (λ _ x => lkC (p := p) (x.2 HM2) hkey rfl rfl) rfl <| fwM rfl rfl (λ _ => bad rfl rfl (inI (by rw [metF_no hnew]; omega))) rfl <| fxM rfl rfl rfl λ w_75 x_76 Q hK => meC (p := p) (HM2.later x_76) hkey rfl rfl rfl λ w_77 st_78 m_79 En_80 => hK _ _ ⟨(RM.of_ext x_76).trans ⟨m_79, λ _ => En_80.map⟩, ?_⟩
   have := x_76.size
   have z_75 := eT z_72 x_76
   have := m_79.size
   have z_77 := Ext.mod z_75 m_79 (ge1 (by omega))
   have C_83 := En_80.map
   have q_84 := C_83.lt
   refine fwM rfl rfl (λ _ => ex rfl rfl) rfl <| fbM rfl rfl rfl λ w_85 x_86 Q hK => esC (En_80.later x_86) rfl rfl rfl λ w_87 m_88 C_89 => hK _ _ ?_
   have := x_86.size
   have z_85 := eT z_77 x_86
   have := m_88.size
   have z_87 := Ext.mod z_85 m_88 (ge1 (by omega))
   have q_92 := C_89.lt
   refine fnM λ w_93 x_94 => ?_
   have := x_94.size
   have z_93 := eT z_87 x_94
   refine nT <| sg <| vm rfl <| ?_
   have B_48 := B_48.later x_76
   have B_48 := B_48.mod m_79 (nm1 (by omega))
   have B_48 := B_48.later x_86
   have B_48 := B_48.mod m_88 (nm1 (by omega))
   have B_48 := B_48.later x_94
   refine vL (ld rfl (B_48.all eF31 eF30)) <| ?_
   have C_89 := C_89.later x_94
   refine vL (lkC (p := p) C_89 hkey rfl rfl) <| vL (bgt rfl rfl) <| nK <| ?_
   have h_96 : (decide (1 < (upC (metF N (doneL N M K r ++ lr.take k)) p (((metF N (doneL N M K r ++ lr.take k)) p) + 1)) p)) = false := by exact decide_eq_false (by rw [up_self, metF_no hnew]; decide)
   refine cF (by rw [← h_96]; rfl) <| sk <| nB <| nT <| rg <| vL (bad rfl rfl (inI (by omega))) <| vm rfl <| nl <| ?_
   have HT := HT.later x_46
   have HT := HT.mod m_52 (λ q hq h => by have hb := List.mem_singleton.1 h; exfalso; (have := u_39 q hq; have := u_1 q hq; have := u_21 q hq; omega))
   have HT := HT.later x_57
   have HT := HT.mod m_59 (λ q hq h => by exfalso; (exact d_33 q h hq))
   have HT := HT.later x_65
   have HT := HT.mod m_67 (λ q hq h => by exfalso; (exact d_33 q h hq))
   have HT := HT.later (eT x_73 x_76)
   have HT := HT.mod m_79 (λ q hq h => by have hb := List.mem_singleton.1 h; exfalso; (have := u_39 q hq; have := u_1 q hq; have := u_21 q hq; omega))
   have HT := HT.later x_86
   have HT := HT.mod m_88 (λ q hq h => by have hb := List.mem_singleton.1 h; exfalso; (have := u_39 q hq; have := u_1 q hq; have := u_21 q hq; omega))
   have HT := HT.later x_94
   have HP := HP.later x_46
   have HP := HP.mod m_52 (λ q hq => .inr (by have := List.mem_singleton.1 hq; omega))
   have HP := HP.later x_57
   have HP := HP.mod m_59 (λ q hq => .inr (by have := lo_31 q hq; omega))
   have HP := HP.later x_65
   have HP := HP.mod m_67 (λ q hq => .inr (by have := lo_31 q hq; omega))
   have HP := HP.later (eT x_73 x_76)
   have HP := HP.mod m_79 (λ q hq => .inr (by have := List.mem_singleton.1 hq; omega))
   have HP := HP.later x_86
   have HP := HP.mod m_88 (λ q hq => .inr (by have := List.mem_singleton.1 hq; omega))
   have HP := HP.later x_94
   have HLr := HLr.later x_46
   have HLr := HLr.mod m_52 (λ q hq h => by have hb := List.mem_singleton.1 h; exfalso; (have := u_40 q hq; have := uLr q hq; omega))
   have HLr := HLr.later x_57
   have HLr := HLr.mod m_59 (λ q hq h => by exfalso; (exact d_34 q h hq))
   have HLr := HLr.later x_65
   have HLr := HLr.mod m_67 (λ q hq h => by exfalso; (exact d_34 q h hq))
   have HLr := HLr.later (eT x_73 x_76)
   have HLr := HLr.mod m_79 (λ q hq h => by have hb := List.mem_singleton.1 h; exfalso; (have := u_40 q hq; have := uLr q hq; omega))
   have HLr := HLr.later x_86
   have HLr := HLr.mod m_88 (λ q hq h => by have hb := List.mem_singleton.1 h; exfalso; (have := u_40 q hq; have := uLr q hq; omega))
   have HLr := HLr.later x_94
   have O_68 := O_68.later (eT x_73 x_76)
   have O_68 := O_68.mod m_79 (λ q hq h => by have hb := List.mem_singleton.1 h; exfalso; (exact d_32 q hq hb))
   have O_68 := O_68.later x_86
   have O_68 := O_68.mod m_88 (λ q hq h => by have hb := List.mem_singleton.1 h; exfalso; (exact d_32 q hq hb))
   have O_68 := O_68.later x_94
   exact nI _ _ ⟨k + 1, rfl, rfl, z_93, HT, HP, HLr, (by rw [take_snocP hp, ← List.append_assoc, ← metF_up hnew]; exact C_89), (by rw [take_snocP hp, two_app, two_one, show [p.a, p.b] = [p.a] ++ [p.b] from rfl, ← List.append_assoc, ← seen_set (x := p.b) (by omega) (by omega), ← seen_set (x := p.a) (by omega) (by omega)]; exact O_68), by omega, (λ q hq hb => by (exact d_32 q hq hb)), (λ q hq hb => by (exact d_33 q hq hb)), (λ q hq hb => by (exact d_34 q hq hb))⟩ (by omega) (.cons rfl (.cons rfl (.cons rfl (.cons rfl (.cons rfl (.cons rfl (.cons rfl (.cons rfl (.cons rfl (.cons rfl (.cons rfl (.cons rfl (.cons rfl (.cons rfl (.cons rfl (.cons (loI rfl (by first | omega | rfl | (simp <;> omega))) .nil))))))))))))))))
  ·have ek : k = lr.length := by omega
   subst ek
   have k6 : ((lr.length : Int) != (N : Int) / 2) = false := by rw [hlen]; simp
   refine xt <| xT <| xK <| xB <| nT <| sg <| vm rfl <| vL (ln Try.underlying28 rfl) <| vm rfl <| vL (bqu rfl rfl (by omega) (by omega) (quI (by omega) (by omega) (by omega))) <| vL (bne rfl rfl) <| nK <| cF (evb rfl k6) <| sk <| nB <| nT <| rg <| vL (bad rfl rfl (inI (by omega))) <| vm rfl <| nl <| ?_
   exact nI _ _ ⟨r + 1, rfl, rfl, z_35, HT, HP, (by have h_ := HM2; rw [List.take_length] at h_; rw [← met_end hper]; exact h_), by omega⟩ (by omega) (.cons rfl (.cons rfl (.cons rfl (.cons rfl (.cons rfl (.cons (loI rfl (by first | omega | rfl | (simp <;> omega))) .nil))))))
 ·have er : r = M := by omega
  subst er
  refine xt <| xT <| xK <| xB <| nT <| sg <| vm rfl <| vL (lnQ HM1 (met_all hM hK) rfl) <| vm rfl <| vm rfl <| vL (bsu rfl rfl (inI (by omega))) <| vL (bmu rfl rfl (inI (by rw [prs_half N]; omega))) <| vL (bqu rfl rfl (by omega) (by omega) (quI (by omega) (by omega) (by omega))) <| vL (beq rfl rfl) <| vm rfl <| vQ rfl rfl rfl rfl (λ hc => mv rfl) rfl <| vQ rfl rfl rfl rfl (λ hc => ln Try.underlying22 (gt hc rfl)) rfl <| vQ rfl rfl rfl rfl (λ hc => mv rfl) rfl <| vQ rfl rfl rfl rfl (λ hc => bsu (gt hc rfl) rfl (inI (by (try simp only [bS] at hc); omega))) rfl <| vQ rfl rfl rfl rfl (λ hc => mv rfl) rfl <| vQ rfl rfl rfl rfl (λ hc => bre (gt hc rfl) rfl (by (try simp only [bS] at hc); omega) (by (try simp only [bS] at hc); omega)) rfl <| vQ rfl rfl rfl rfl (λ hc => bad (gt hc rfl) (gt hc rfl) (inI (by (try simp only [bS] at hc); omega))) rfl <| vQ rfl rfl rfl rfl (λ hc => beq (gt hc rfl) (gt hc rfl)) rfl <| ?_
  refine vL (pA rfl rfl rfl rfl) <| va rfl <| nK <| rt <| tR (.tmp rfl .nil) <| ?_
  exact ⟨ret_true (once_end hM hN hTl), z_17⟩
theorem matchOnce_any (a0 : Int) (w : World) (w0 : (Lit.int .i64 a0).wf = true) :
  Calls Try.prog 3 #[.int .i64 a0] w λ e w' => e = .returned (.bool true) ∧ Below w.heap.size w w' := by
 by_cases hn : a0 < 2 ∨ 64 < a0
 ·exact matchOnce_bad a0 w hn
 ·obtain ⟨N, rfl⟩ : ∃ N : Nat, a0 = N := ⟨a0.toNat, by omega⟩
  exact matchOnce_ok N (N + N % 2 - 1) ((N + N % 2) / 2) w (by omega) (by omega) (by omega)
end
end Go.Proofs.Ytifffjhhammeiaa
