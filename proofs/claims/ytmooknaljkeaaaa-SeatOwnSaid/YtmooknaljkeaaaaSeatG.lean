/-
  The walks of slices.DeleteFunc and mustkeep.ofPlayer.
-/
import Derived.Test.YtmooknaljkeaaaaSeatD
set_option linter.unusedVariables false
namespace Go.Proofs.Ytmooknaljkeaaaa
open Go.RowKit

theorem ofP_all {b : Nat} {l : List Ord} (h : ∀ j (hj : j < l.length), delO (b : Int) l[j] = false) : ofP b l = l := by
  unfold ofP
  rw [List.filter_eq_self]
  intro o ho
  obtain ⟨j, hj, rfl⟩ := List.mem_iff_getElem.1 ho
  have := h j hj
  unfold delO at this
  simpa using this
theorem ofP_snoc_keep {b : Nat} {l : List Ord} {j : Nat} (hj : j < l.length) (h : delO (b : Int) l[j] = false) : ofP b (l.take (j + 1)) = ofP b (l.take j) ++ [l[j]] := by
  rw [List.take_succ_eq_append_getElem hj, ofP_app, ofP_one_self]
  unfold delO at h
  simpa using h
theorem ofP_snoc_drop {b : Nat} {l : List Ord} {j : Nat} (hj : j < l.length) (h : delO (b : Int) l[j] = true) : ofP b (l.take (j + 1)) = ofP b (l.take j) := by
  rw [List.take_succ_eq_append_getElem hj, ofP_app, ofP_one_other, List.append_nil]
  unfold delO at h
  simpa using h
theorem first_idx {p : Ord → Bool} {l : List Ord} {k : Nat} (h : l.findIdx? p = some k) : ∃ hk : k < l.length, p l[k] = true ∧ ∀ j (hj : j < k), p (l[j]'(by omega)) = false := by
  rw [List.findIdx?_eq_some_iff_getElem] at h
  obtain ⟨hk, h1, h2⟩ := h
  exact ⟨hk, h1, fun j hj => by simpa using h2 j hj⟩
def OfPost (w : World) (base : Nat) (r : List Ord) (e : Ending) (w' : World) : Prop :=
  ∃ A c, e = .returned (.slice A r.length c) ∧ Own w' base 59 6 GO (.slice A r.length c) r.length (ordCells r) ∧ w.grownBy w' (Value.slice A r.length c).ownBlock
set_option maxRecDepth 100000 in
set_option maxHeartbeats 4000000 in
theorem delete_none (b : Nat) (q : Nat) (A : Option Addr) (n c : Nat) (l : List Ord) (w : World) (hq : w.cell? ⟨q, 0, none⟩ = some (.int .i64 (b : Int))) (hl : Ords w A n c l) (hall : ∀ j (hj : j < l.length), delO (b : Int) l[j] = false) :
    Calls Try.prog 54 #[.slice A n c, .func (.func 55) #[] #[.pointer (some ⟨q, 0, none⟩)]] w fun e w' => e = .returned (.slice A n c) ∧ Below w.heap.size w w' := by
  have hc := idx_of (b : Int) q A n c l w hq hl
  rw [idxI_none hall] at hc
  clear hall hl hq
  go_enter Try.func54, Try.ntmps54
  go_wp2_with (go_at_call 75; refine hc.mono ?_; rintro e w' ⟨rfl, hb2⟩)
  go_ret
  exact ⟨rfl, hb2⟩
def ordBlk' (o : Ord) : List Value := [.int .i64 o.by_, .int .i64 o.kind, .int .i64 o.who, .int .i64 o.x, .int .i64 o.y, .int .i64 o.what]
/-- In memory, amid the loop. -/
structure Del (w wr : World) (base g c n b : Nat) (l : List Ord) (i j : Nat) (L : List Ord) : Prop where
  len : L.length = n
  own : Own wr base 59 6 GO (.slice (some ⟨g, 0, none⟩) n c) n (ordCells L)
  done : L.take i = ofP b (l.take j)
  rest : L.drop j = l.drop j
  grown : w.grownBy wr (some g)
theorem Del.later {w wr w' : World} {base g c n b : Nat} {l : List Ord} {i j : Nat} {L : List Ord} (h : Del w wr base g c n b l i j L) (hb : Below wr.heap.size wr w') : Del w w' base g c n b l i j L :=
  ⟨h.len, h.own.later hb, h.done, h.rest, ⟨hb.os.trans h.grown.os, hb.tape.trans h.grown.tape, hb.output.trans h.grown.output, Nat.le_trans h.grown.size hb.size, fun x hx hg => (hb.block x (Nat.lt_of_lt_of_le hx h.grown.size)).trans (h.grown.block x hx hg)⟩⟩
theorem Del.skip {w wr : World} {base g c n b : Nat} {l : List Ord} {i j : Nat} {L : List Ord} (h : Del w wr base g c n b l i j L) {x : Ord} (hx : l[j]? = some x) (hd : delO (b : Int) x = true) : Del w wr base g c n b l i (j + 1) L := by
  obtain ⟨hj, rfl⟩ := List.getElem?_eq_some_iff.1 hx
  refine ⟨h.len, h.own, by rw [ofP_snoc_drop hj hd]; exact h.done, ?_, h.grown⟩
  have := congrArg (List.drop 1) h.rest
  rwa [List.drop_drop, List.drop_drop] at this
theorem setCells_grown (g : Nat) : ∀ (vs : List Value) (o : Nat) (W : World), W.grownBy (W.setCells g o vs) (some g) := by
  intro vs
  induction vs with
  | nil => intro o W; exact World.grownBy.refl W _
  | cons v r ih =>
    intro o W
    have h1 := ih (o + 1) (W.setCell ⟨g, o, none⟩ v)
    rw [World.setCells]
    exact ⟨h1.os, h1.tape, h1.output, by have := h1.size; simpa [World.setCell] using this, fun k hk hne => (h1.block k (by simpa [World.setCell] using hk) hne).trans (heap_setCell_other _ _ _ _ (fun e => hne (by rw [e])))⟩
theorem Del.keep {w wr : World} {base g c n b : Nat} {l : List Ord} {i j : Nat} {L : List Ord} (h : Del w wr base g c n b l i j L) {x : Ord} (hx : l[j]? = some x) (hd : delO (b : Int) x = false) (hij : i < j) (hjn : j < n) :
    Del w (wr.setCells g (i * 6) x.cells) base g c n b l (i + 1) (j + 1) (L.set i x) := by
  obtain ⟨hj, rfl⟩ := List.getElem?_eq_some_iff.1 hx
  have hl := h.len
  have hb : ∀ (vs : List Value) (o : Nat) (W : World), W.grownBy (W.setCells g o vs) (some g) := by
    intro vs
    induction vs with
    | nil => intro o W; exact World.grownBy.refl W _
    | cons v r ih =>
      intro o W
      have h1 := ih (o + 1) (W.setCell ⟨g, o, none⟩ v)
      rw [World.setCells]
      exact ⟨h1.os, h1.tape, h1.output, by have := h1.size; simpa [World.setCell] using this, fun k hk hne => (h1.block k (by simpa [World.setCell] using hk) hne).trans (heap_setCell_other _ _ _ _ (fun e => hne (by rw [e])))⟩
  refine ⟨by rw [List.length_set]; exact hl, ?_, ?_, ?_, ?_⟩
  · rw [← setFrom_ord L i l[j] (by omega)]
    exact h.own.setCells _ _ _ _ (fun t u hu => ord_int _ u (List.mem_of_getElem? hu))
  · rw [ofP_snoc_keep hj hd, ← h.done, List.take_succ_eq_append_getElem (by rw [List.length_set]; omega), List.getElem_set_self, List.take_set_of_le (by omega)]
  · rw [List.drop_set_of_lt (by omega)]
    have := congrArg (List.drop 1) h.rest
    rwa [List.drop_drop, List.drop_drop] at this
  · have h2 := hb (l[j]).cells (i * 6) wr
    exact ⟨h2.os.trans h.grown.os, h2.tape.trans h.grown.tape, h2.output.trans h.grown.output, Nat.le_trans h.grown.size h2.size, fun x hx hg => (h2.block x (Nat.lt_of_lt_of_le hx h.grown.size) hg).trans (h.grown.block x hx hg)⟩
theorem Del.at {w wr : World} {base g c n b : Nat} {l : List Ord} {i j : Nat} {L : List Ord} (h : Del w wr base g c n b l i j L) (hl : l.length = n) (hj : j < n) : L[j]? = l[j]? := by
  have := congrArg (fun x => x[0]?) h.rest
  simpa [List.getElem?_drop] using this
set_option maxRecDepth 100000 in
set_option maxHeartbeats 4000000 in
theorem delete_some (b : Nat) (q : Nat) (base g n c : Nat) (l : List Ord) (w : World) (hq : w.cell? ⟨q, 0, none⟩ = some (.int .i64 (b : Int))) (hqg : q ≠ g) (hl : Ords w (some ⟨g, 0, none⟩) n c l)
    (ho : Own w base 59 6 GO (.slice (some ⟨g, 0, none⟩) n c) n (ordCells l)) {k : Nat} (hk : l.findIdx? (delO (b : Int)) = some k) (hn : n ≤ 1000000) :
    Calls Try.prog 54 #[.slice (some ⟨g, 0, none⟩) n c, .func (.func 55) #[] #[.pointer (some ⟨q, 0, none⟩)]] w (OfPost w base (ofP b l)) := by
  have hc := idx_of (b : Int) q (some ⟨g, 0, none⟩) n c l w hq hl
  have hidx : idxI (delO (b : Int)) l = (k : Int) := by unfold idxI; rw [hk]
  rw [hidx] at hc
  obtain ⟨hkl, hk1, hk2⟩ := first_idx hk
  have hln := hl.len
  have hcap := hl.cap
  have htop := hl.top
  have hD0 : ∀ W, Below w.heap.size w W → Del w W base g c n b l k (k + 1) l := by
    intro W hW
    refine ⟨hln, ho.later hW, ?_, rfl, ⟨hW.os, hW.tape, hW.output, hW.size, fun x hx _ => hW.block x hx⟩⟩
    rw [ofP_snoc_drop hkl hk1, ofP_all]
    intro j hj
    rw [List.length_take] at hj
    rw [List.getElem_take]
    exact hk2 j (by omega)
  have HD0 := Lib.hid hD0
  have HQ := Lib.hid hq
  have hkn : ((k : Int) == -1) = false := by rw [beq_eq_false_iff_ne]; omega
  have hkn2 : k < n := by omega
  have HLN := Lib.hid hln
  have hgw : g < w.heap.size := (ho.row.lt g rfl).2
  clear hD0 hq hidx hk hk1 hk2 hl ho hln hkl
  go_enter Try.func54, Try.ntmps54
  go_wp2_with fail
  refine hc.mono ?_
  rintro e w1 ⟨rfl, hb1⟩
  have HD1 : Hid (Del w w1 base g c n b l k (k + 1) l) := HD0.out w1 hb1
  clear hc
  go_wp2_with fail
  go_loopw [5, 6, 7] (fun iv jv _ wr => ∃ (i j : Nat) (L : List Ord), i < j ∧ j ≤ n ∧ iv = .int .i64 (i : Int) ∧ jv = .int .i64 (j : Int) ∧ Hid (Del w wr base g c n b l i j L)) (fun _ jv _ _ => n - (intOf jv).toNat)
  case atStart => exact ⟨k, k + 1, l, by omega, by omega, rfl, by go_num, HD1⟩
  case round =>
    clear HD1 hkn hkn2 hb1
    obtain ⟨i, j, L, hij, hjn, rfl, rfl, HD⟩ := hrel
    by_cases hlt : j < n
    · have hLn := HD.out.len
      have hq1 : wr.cell? ⟨q, 0, none⟩ = some (.int .i64 (b : Int)) := by
        have hqw := World.block_lt_of_cell? w _ HQ.out
        rw [World.cell?_of_block (a := ⟨q, 0, none⟩) (HD.out.grown.block q hqw (fun e => hqg (by injection e)))]
        exact HQ.out
      obtain ⟨x, hx⟩ : ∃ x, l[j]? = some x := ⟨_, List.getElem?_eq_getElem (by have := HLN.out; omega)⟩
      have hxL := (HD.out.at HLN.out hlt).trans hx
      obtain ⟨hjL, hxL2⟩ := List.getElem?_eq_some_iff.1 hxL
      have hcx : ∀ t, t < 6 → wr.cell? ⟨g, j * 6 + t, none⟩ = x.cells[t]? := fun t ht => by
        rw [HD.out.own.cell _ (by omega), ordCells_get L j t hjL ht, hxL2]
      have q0 : wr.cell? ⟨g, j * 6, none⟩ = some (.int .i64 x.by_) := hcx 0 (by decide)
      have q1 : wr.cell? ⟨g, j * 6 + 1, none⟩ = some (.int .i64 x.kind) := hcx 1 (by decide)
      have q2 : wr.cell? ⟨g, j * 6 + 2, none⟩ = some (.int .i64 x.who) := hcx 2 (by decide)
      have q3 : wr.cell? ⟨g, j * 6 + 3, none⟩ = some (.int .i64 x.x) := hcx 3 (by decide)
      have q4 : wr.cell? ⟨g, j * 6 + 4, none⟩ = some (.int .i64 x.y) := hcx 4 (by decide)
      have q5 : wr.cell? ⟨g, j * 6 + 5, none⟩ = some (.int .i64 x.what) := hcx 5 (by decide)
      have hof := of1_any x (b : Int) q
      rw [Ord.cells_eq] at hof
      have HX := Lib.hid hx
      have HXL := Lib.hid hxL
      have hgwr : g < wr.heap.size := Nat.lt_of_lt_of_le hgw HD.out.grown.size
      have hqwr := World.block_lt_of_cell? wr _ hq1
      clear hx hxL hxL2 hcx hjL
      have hA := Blk.new wr (ordBlk' x) 59 (0, 0)
      cases hdel : delO (b : Int) x with
      | true =>
        rw [hdel] at hof
        go_wp2_with fail
        refine (hof _ (cell_later (below_alloc0 _ _) hq1)).mono ?_
        rintro e w3 ⟨rfl, hb3⟩
        have hdn := (HD.out.later ((below_alloc0 _ _).trans (hb3.mono (by simp)))).skip HX.out hdel
        have HDN := Lib.hid hdn
        clear hdn hdel
        go_wp2_with fail
        go_roundw
        case rel => exact ⟨i, j + 1, L, by omega, by omega, rfl, by go_num, HDN⟩
        case measure => simp [intOf]; omega
      | false =>
        rw [hdel] at hof
        go_wp2_with fail
        refine (hof _ (cell_later (below_alloc0 _ _) hq1)).mono ?_
        rintro e w3 ⟨rfl, hb3⟩
        have hA3 := hA.later hb3
        obtain ⟨p0, p1, p2, p3, p4, p5⟩ : w3.cell? ⟨wr.heap.size, 0, none⟩ = some (.int .i64 x.by_) ∧ w3.cell? ⟨wr.heap.size, 1, none⟩ = some (.int .i64 x.kind) ∧ w3.cell? ⟨wr.heap.size, 2, none⟩ = some (.int .i64 x.who) ∧ w3.cell? ⟨wr.heap.size, 3, none⟩ = some (.int .i64 x.x) ∧ w3.cell? ⟨wr.heap.size, 4, none⟩ = some (.int .i64 x.y) ∧ w3.cell? ⟨wr.heap.size, 5, none⟩ = some (.int .i64 x.what) := ⟨hA3.cell 0, hA3.cell 1, hA3.cell 2, hA3.cell 3, hA3.cell 4, hA3.cell 5⟩
        have HD3 := Lib.hid (HD.out.later ((below_alloc0 _ _).trans (hb3.mono (by simp))))
        have hsome : ∀ t, t < 6 → ∃ u, w3.cell? ⟨g, i * 6 + t, none⟩ = some u := fun t ht => by
          rw [HD3.out.own.cell _ (by omega), ordCells_get L i t (by omega) ht]
          exact ⟨_, List.getElem?_eq_getElem (by rw [Ord.cells_len]; exact ht)⟩
        obtain ⟨v0, r0⟩ := hsome 0 (by decide)
        obtain ⟨v1, r1⟩ := hsome 1 (by decide)
        obtain ⟨v2, r2⟩ := hsome 2 (by decide)
        obtain ⟨v3, r3⟩ := hsome 3 (by decide)
        obtain ⟨v4, r4⟩ := hsome 4 (by decide)
        obtain ⟨v5, r5⟩ := hsome 5 (by decide)
        rw [Nat.add_zero] at r0
        have f0 := HD3.out.own.free (i * 6)
        have f1 := HD3.out.own.free (i * 6 + 1)
        have f2 := HD3.out.own.free (i * 6 + 2)
        have f3 := HD3.out.own.free (i * 6 + 3)
        have f4 := HD3.out.own.free (i * 6 + 4)
        have f5 := HD3.out.own.free (i * 6 + 5)
        have hgx : ¬ g = wr.heap.size := by omega
        have hdn := HD3.out.keep HX.out hdel hij hlt
        have HDN := Lib.hid hdn
        have hin : i < n := by omega
        clear hdn hdel hsome hA hA3 q0 q1 q2 q3 q4 q5
        go_wp2_with fail
        go_roundw
        case rel => exact ⟨i + 1, j + 1, L.set i x, by omega, by omega, by go_num, by go_num, HDN⟩
        case measure => simp [intOf]; omega
    · obtain rfl : j = n := by omega
      have hin : i < j := hij
      have hci : ¬ c = i := by omega
      have hic : i ≤ c := by omega
      have hLn := HD.out.len
      have hclr := fun ty => run_clear_ord wr ty g (i * 6) (j - i) (c - i) (by omega) (fun t ht => by rw [HD.out.own.cell _ (by omega)]; simp [ordCells_len]; omega) (fun t ht => HD.out.own.free _)
      have hdone := HD.out.done
      have hall : l.take j = l := List.take_of_length_le (by have := HLN.out; omega)
      rw [hall] at hdone
      have hlen : i = (ofP b l).length := by rw [← hdone, List.length_take]; omega
      have hfin : Own (wr.setCells g (i * 6) (Builtin.zeroCells ordZero.cells (j - i)).toList) base 59 6 GO (.slice (some ⟨g, 0, none⟩) i c) i (ordCells (ofP b l)) := by
        have h1 := (HD.out.own.cut i (by omega)).setCells (Builtin.zeroCells ordZero.cells (j - i)).toList (i * 6) _ _ (fun t u hu => zero_ord_go _ t u hu)
        rw [setFrom_out _ _ _ (by rw [List.length_take, ordCells_len]; omega), ordCells_take, hdone] at h1
        exact h1
      have hgr : w.grownBy (wr.setCells g (i * 6) (Builtin.zeroCells ordZero.cells (j - i)).toList) (some g) := by
        have h2 := setCells_grown g (Builtin.zeroCells ordZero.cells (j - i)).toList (i * 6) wr
        have h := HD.out
        exact ⟨h2.os.trans h.grown.os, h2.tape.trans h.grown.tape, h2.output.trans h.grown.output, Nat.le_trans h.grown.size h2.size, fun x hx hg => (h2.block x (Nat.lt_of_lt_of_le hx h.grown.size) hg).trans (h.grown.block x hx hg)⟩
      have HLE := Lib.hid hlen
      have HFN := Lib.hid hfin
      have HGR := Lib.hid hgr
      obtain ⟨wz, hwz⟩ : ∃ wz, wr.setCells g (i * 6) (Builtin.zeroCells ordZero.cells (j - i)).toList = wz := ⟨_, rfl⟩
      rw [hwz] at hclr HFN HGR
      clear hwz
      have hdl1 : (i : Int) ≤ (j : Int) := by omega
      have hdl2 : (0 : Int) ≤ (i : Int) := by omega
      have hdl3 : (i : Int) ≤ (c : Int) := by omega
      clear hdone hall hlen hfin hgr hLn
      go_wp2_with fail
      go_ret
      refine ⟨some ⟨g, 0, none⟩, c, by rw [← HLE.out]; rfl, by rw [← HLE.out]; exact HFN.out, HGR.out⟩
/-- mustkeep.ofPlayer. -/
def PlayerPost (w : World) (r : List Ord) (e : Ending) (w' : World) : Prop :=
  ∃ A c, e = .returned (.slice A r.length c) ∧ Own w' w.heap.size 59 6 GO (.slice A r.length c) r.length (ordCells r) ∧ Below w.heap.size w w'
set_option maxRecDepth 100000 in
theorem player_any (b : Nat) (A : Option Addr) (n c : Nat) (l : List Ord) (w : World) (hl : Ords w A n c l) (hn : n ≤ 1000000) :
    Calls Try.prog 28 #[.slice A n c, .int .i64 (b : Int)] w (PlayerPost w (ofP b l)) := by
  have hb0 := below_alloc0 w (.cells #[.int .i64 (b : Int)] 3)
  have hB := Blk.new w [.int .i64 (b : Int)] 3 (0, 0)
  have hcl := clone_o (hl.later hb0)
  unfold CloneO at hcl
  have hln := hl.len
  have HL := Lib.hid hl
  clear hl
  go_enter Try.func28, Try.ntmps28
  go_wp2_with fail
  refine hcl.mono ?_
  rintro e w2 ⟨A', c', rfl, hown, hle, hnone, hb2⟩
  clear hcl
  have hq : w2.cell? ⟨w.heap.size, 0, none⟩ = some (.int .i64 (b : Int)) := (hB.later hb2).cell 0
  have hbb := hb0.trans (hb2.mono hb0.size)
  obtain ⟨A2, c2, e, _, hmx, hrd, hbd, hnn⟩ := hown.shape
  injection e with e1 _ e2
  subst e1; subst e2
  unfold maxLen at hmx
  have hor : Ords w2 A' n c' l := ⟨hln, hle, by omega, by omega, fun h => by have := hnn h; injection this with _ h1 h2; exact ⟨h1, h2⟩, hrd⟩
  cases hk : l.findIdx? (delO (b : Int)) with
  | none =>
    have hall : ∀ j (hj : j < l.length), delO (b : Int) l[j] = false := by
      rw [List.findIdx?_eq_none_iff] at hk
      exact fun j hj => hk _ (List.getElem_mem hj)
    have hd := delete_none b w.heap.size A' n c' l w2 hq hor hall
    have hp := ofP_all hall
    have HP := Lib.hid hp
    have HLN := Lib.hid hln
    have hown2 := hown.mono hb0.size
    have HO := Lib.hid hown2
    clear hall hk hp hor hrd hbd hnn hown hown2 hln hnone
    go_wp2_with fail
    refine hd.mono ?_
    rintro e w3 ⟨rfl, hb3⟩
    clear hd
    go_wp2_with fail
    go_ret
    exact ⟨A', c', by rw [HP.out, HLN.out]; rfl, by rw [HP.out, HLN.out]; exact HO.out.later hb3, hbb.trans (hb3.mono hbb.size)⟩
  | some k =>
    have hkl := (first_idx hk).1
    obtain ⟨g, c3, e, _⟩ := hown.addr (by omega)
    injection e with e1 _ e2
    subst e1; subst e2
    have hgl := (hown.row.lt g rfl)
    have hd := delete_some b w.heap.size w.heap.size g n c' l w2 hq (by have := hgl.1; simp at this; omega) hor (hown.mono hb0.size) hk hn
    unfold OfPost at hd
    clear hk hkl hor hrd hbd hnn hown hln hnone
    go_wp2_with fail
    refine hd.mono ?_
    rintro e w3 ⟨A3, c3, rfl, hown3, hgr⟩
    have HO := Lib.hid hown3
    have hb3 : Below w.heap.size w w3 := hbb.grown hgr hbb.size (fun k hk => (hown3.row.lt k hk).1)
    clear hd hown3 hgr
    go_wp2_with fail
    go_ret
    exact ⟨A3, c3, rfl, HO.out, hb3⟩
end Go.Proofs.Ytmooknaljkeaaaa
