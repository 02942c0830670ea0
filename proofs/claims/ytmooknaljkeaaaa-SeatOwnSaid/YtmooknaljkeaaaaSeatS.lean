/-
  The walk of seat.Say.
-/
import Derived.Test.YtmooknaljkeaaaaSeatN
set_option linter.unusedVariables false
namespace Go.Proofs.Ytmooknaljkeaaaa
open Go.RowKit

/-- What Say answers. -/
def sayCode (l : List Seat) (o : Ord) : Int :=
  if Seat.chk l ≠ 0 then Seat.chk l else if o.chk ≠ 0 then o.chk else
  match l[o.by_.toNat]? with
  | none => 7
  | some s => if s.gone then 9 else if s.waits.length = 50 then 6 else 0
def sayTo (l : List Seat) (o : Ord) : List Seat :=
  match l[o.by_.toNat]? with
  | none => l
  | some s => l.set o.by_.toNat ⟨s.waits ++ [o], s.late, s.gone⟩
def SayPost (w : World) (n : Nat) (l : List Seat) (o : Ord) (e : Ending) (w' : World) : Prop :=
  ∃ A c hs, e = .returned (.tuple #[.slice A n c, .int .i64 0]) ∧ Mine w' w.heap.size (.slice A n c) n hs (sayTo l o) ∧ Below w.heap.size w w'
def ordBlk (o : Ord) : List Value := [.int .i64 o.by_, .int .i64 o.kind, .int .i64 o.who, .int .i64 o.x, .int .i64 o.y, .int .i64 o.what]
theorem six_of {w : World} {g : Nat} {o : Ord} (h : Blk w g (ordBlk o) 59 (0, 0)) : w.cell? ⟨g, 0, none⟩ = some (.int .i64 o.by_) ∧ w.cell? ⟨g, 1, none⟩ = some (.int .i64 o.kind) ∧ w.cell? ⟨g, 2, none⟩ = some (.int .i64 o.who) ∧
    w.cell? ⟨g, 3, none⟩ = some (.int .i64 o.x) ∧ w.cell? ⟨g, 4, none⟩ = some (.int .i64 o.y) ∧ w.cell? ⟨g, 5, none⟩ = some (.int .i64 o.what) := ⟨h.cell 0, h.cell 1, h.cell 2, h.cell 3, h.cell 4, h.cell 5⟩
theorem Seats.get {w : World} {A : Option Addr} {n c : Nat} {hs : List Seat.At} {l : List Seat} (h : Seats w A n c hs l) {i : Nat} {s : Seat} (hs0 : l[i]? = some s) :
    ∃ b o k, A = some ⟨b, o, none⟩ ∧ hs[i]? = some k ∧ Ords w k.A s.waits.length k.c s.waits ∧ w.cell? ⟨b, o + i * 3, none⟩ = some (.slice k.A s.waits.length k.c) ∧ w.cell? ⟨b, o + i * 3 + 1, none⟩ = some (.int .i64 s.late) ∧ w.cell? ⟨b, o + i * 3 + 2, none⟩ = some (.bool s.gone) := by
  obtain ⟨hi, rfl⟩ := List.getElem?_eq_some_iff.1 hs0
  have hh : i < hs.length := by rw [h.hlen, ← h.len]; exact hi
  obtain ⟨b, o, rfl, hc⟩ := h.three (by have := h.len; omega)
  obtain ⟨q0, q1, q2⟩ := hc i hh hi
  exact ⟨b, o, _, rfl, List.getElem?_eq_getElem hh, h.ords i hh hi, q0, q1, q2⟩
theorem Mine.get {w : World} {B g c n : Nat} {hs : List Seat.At} {l : List Seat} (h : Mine w B (.slice (some ⟨g, 0, none⟩) n c) n hs l) {i : Nat} {s : Seat} (hs0 : l[i]? = some s) :
    ∃ k, hs[i]? = some k ∧ Ords w k.A s.waits.length k.c s.waits ∧ Free w B k.A k.c ∧ (∀ a, k.A = some a → a.block ≠ g) ∧ w.cell? ⟨g, i * 3, none⟩ = some (.slice k.A s.waits.length k.c) ∧ w.cell? ⟨g, i * 3 + 1, none⟩ = some (.int .i64 s.late) ∧ w.cell? ⟨g, i * 3 + 2, none⟩ = some (.bool s.gone) ∧ w.frozen? ⟨g, i * 3, none⟩ = false := by
  obtain ⟨hi, rfl⟩ := List.getElem?_eq_some_iff.1 hs0
  have hh : i < hs.length := by rw [h.hlen, ← h.len]; exact hi
  obtain ⟨q0, q1, q2, f0, _⟩ := h.cells i hi hh
  exact ⟨_, List.getElem?_eq_getElem hh, h.ords i hh hi, h.free i hh, (fun a ha e => h.apart i hh a ha (by rw [e]; rfl)), q0, q1, q2, f0⟩
theorem Mine.down {w : World} {B B' : Nat} {v : Value} {n : Nat} {hs : List Seat.At} {l : List Seat} (h : Mine w B v n hs l) (hb : B' ≤ B) : Mine w B' v n hs l :=
  ⟨h.len, h.hlen, h.row.mono hb, h.ords, (fun i h1 => by
    rcases h.free i h1 with h | ⟨b, o, cur, h, h2, h3⟩
    · exact .inl h
    · exact .inr ⟨b, o, cur, h, Nat.le_trans hb h2, h3⟩), h.apart⟩
theorem Fresh.said {w4 wl w5 : World} {B g c n i m : Nat} {hs : List Seat.At} {l : List Seat} {o : Ord} {s : Seat} {k : Seat.At} {A5 : Option Addr} {c5 : Nat}
    (hf : Fresh w4 B (.slice (some ⟨g, 0, none⟩) n c) n hs l) (hs0 : l[i]? = some s) (hk0 : hs[i]? = some k) (hm : s.waits.length = m) (hl : Below w4.heap.size w4 wl)
    (hg : wl.grownBy w5 (Value.slice k.A m k.c).ownBlock) (hown : Own w5 B 59 6 GO (.slice A5 (m + 1) c5) (m + 1) (ordCells s.waits ++ o.cells)) (hbig : m ≤ 100)
    (hat : (Value.slice A5 (m + 1) c5).ownBlock = (Value.slice k.A m k.c).ownBlock ∨ (Value.slice A5 (m + 1) c5).ownBlock = some wl.heap.size) :
    Mine (w5.setCell ⟨g, i * 3, none⟩ (.slice A5 (m + 1) c5)) B (.slice (some ⟨g, 0, none⟩) n c) n (hs.set i ⟨A5, c5⟩) (l.set i ⟨s.waits ++ [o], s.late, s.gone⟩) := by
  obtain ⟨hi, rfl⟩ := List.getElem?_eq_some_iff.1 hs0
  obtain ⟨hih, rfl⟩ := List.getElem?_eq_some_iff.1 hk0
  subst hm
  have hm := hf.mine
  have hlh := hm.hlen.trans hm.len.symm
  have hgl := (hm.row.row.lt g rfl).2
  have hgw : w4.heap.size ≤ wl.heap.size := hl.size
  have hne : ∀ x (h1 : x < hs.length) a, hs[x].A = some a → a.block ≠ g := fun x h1 a ha e => hm.apart x h1 a ha (by rw [e]; rfl)
  have hkb : ∀ a : Addr, a.block < w4.heap.size → (∀ b, hs[i].A = some b → b.block ≠ a.block) → w5.heap[a.block]? = w4.heap[a.block]? := by
    intro a ha hb
    refine (hg.block a.block (by omega) fun e => ?_).trans (hl.block _ ha)
    cases hka : hs[i].A with
    | none => rw [hka] at e; cases e
    | some b => rw [hka] at e; injection e with e; exact hb b hka e.symm
  have hkg : w5.heap[g]? = w4.heap[g]? := hkb ⟨g, 0, none⟩ hgl (fun b hb => hne i hih b hb)
  have hset : ∀ a : Addr, a.block ≠ g → (w5.setCell ⟨g, i * 3, none⟩ (.slice A5 (l[i].waits.length + 1) c5)).heap[a.block]? = w5.heap[a.block]? := fun a ha => heap_setCell_other _ _ _ _ ha
  have h5g : ∀ a, A5 = some a → a.block ≠ g := by
    intro a ha e
    rcases hat with h | h
    · rw [ha] at h
      cases hka : hs[i].A with
      | none => rw [hka] at h; cases h
      | some b => rw [hka] at h; injection h with h; exact hne i hih b hka (by rw [← e]; exact h.symm)
    · rw [ha] at h; injection h with h; have : g = wl.heap.size := by rw [← e]; exact h
      omega
  have hown' : Own (w5.setCell ⟨g, i * 3, none⟩ (.slice A5 (l[i].waits.length + 1) c5)) B 59 6 GO (.slice A5 (l[i].waits.length + 1) c5) (l[i].waits.length + 1) (ordCells l[i].waits ++ o.cells) :=
    hown.other (fun e => by
      cases ha : A5 with
      | none => rw [ha] at e; cases e
      | some a => rw [ha] at e; injection e with e; exact h5g a ha e) _
  refine ⟨by rw [List.length_set]; exact hm.len, by rw [List.length_set]; exact hm.hlen, ?_, ?_, ?_, ?_⟩
  · have h1 : Own w5 B 49 3 GS3 (.slice (some ⟨g, 0, none⟩) n c) n (Seat.row hs l) := hm.row.of_block (B := 0) fun g' hg' => by injection hg' with hg'; rw [← hg']; exact hkg
    have h2 := h1.stored (i * 3 + 0) (.slice A5 (l[i].waits.length + 1) c5) trivial
    rw [Seat.row_set hs l hlh i 0 hi (by decide) ⟨A5, c5⟩ ⟨l[i].waits ++ [o], l[i].late, l[i].gone⟩ _ (by unfold Seat.cells; simp)] at h2
    exact h2
  · intro x h1 h2
    rw [List.length_set] at h1 h2
    by_cases e : i = x
    · subst e
      simp only [List.getElem_set_self]
      obtain ⟨A', c', e, hle, hmx, hrd, _, hnn⟩ := hown'.shape
      injection e with e1 _ e2
      subst e1; subst e2
      refine ⟨rfl, by simpa using hle, by simp; omega, by unfold maxLen at hmx; omega, fun h => ?_, ?_⟩
      · have := hnn h; injection this with _ h3 _; omega
      · rw [ordCells_app, ordCells_one, List.length_append]; exact hrd
    · simp only [List.getElem_set_ne e]
      refine (hm.ords x h1 h2).of_block fun a ha => ?_
      rw [hset a (hne x h1 a ha)]
      exact hkb a ((hm.free x h1).lt ha).2 fun b hb => hf.far i x hih h1 e b a hb ha
  · intro x h1
    rw [List.length_set] at h1
    by_cases e : i = x
    · subst e
      simp only [List.getElem_set_self]
      exact Free.of_own hown'
    · simp only [List.getElem_set_ne e]
      refine (hm.free x h1).of_block fun a ha => ?_
      rw [hset a (hne x h1 a ha)]
      exact hkb a ((hm.free x h1).lt ha).2 fun b hb => hf.far i x hih h1 e b a hb ha
  · intro x h1 a ha e2
    rw [List.length_set] at h1
    injection e2 with e2
    by_cases e : i = x
    · subst e
      simp only [List.getElem_set_self] at ha
      exact h5g a ha e2.symm
    · simp only [List.getElem_set_ne e] at ha
      exact hne x h1 a ha e2.symm
theorem said_keep {w4 w5 : World} {B x g c n i : Nat} {hs : List Seat.At} {l : List Seat} {o : Ord} {v u0 u1 u2 u3 u4 u5 : Value} (hm : Mine w4 B (.slice (some ⟨g, 0, none⟩) n c) n hs l) (hA : Blk w4 x (ordBlk o) 59 (0, 0)) (hg : B ≤ g) (hx : x < B)
    (hf : ∀ a, v.ownBlock = some a → B ≤ a ∧ a ≠ g) (hw : ((w4.alloc (.cells #[u0, u1, u2, u3, u4, u5] 59)).drew).grownBy w5 v.ownBlock) :
    w5.cell? ⟨x, 0, none⟩ = some (.int .i64 o.by_) ∧ w5.cell? ⟨g, i * 3, none⟩ = w4.cell? ⟨g, i * 3, none⟩ ∧ w5.frozen? ⟨g, i * 3, none⟩ = w4.frozen? ⟨g, i * 3, none⟩ ∧ w5.heap[g]? = w4.heap[g]? := by
  have hgl := (hm.row.row.lt g rfl).2
  have hxl := hA.lt
  have hal : ∀ k, k < w4.heap.size → (w4.alloc (.cells #[u0, u1, u2, u3, u4, u5] 59)).heap[k]? = w4.heap[k]? := fun k hk => (below_alloc0 w4 (.cells #[u0, u1, u2, u3, u4, u5] 59)).block k hk
  have hsz : w4.heap.size < ((w4.alloc (.cells #[u0, u1, u2, u3, u4, u5] 59)).drew).heap.size := by
    show _ < (w4.alloc _).heap.size
    simp
  have k1 : w5.heap[x]? = w4.heap[x]? := (hw.block x (by omega) (fun e => by have := (hf x e.symm).1; omega)).trans (hal x hxl)
  have k2 : w5.heap[g]? = w4.heap[g]? := (hw.block g (by omega) (fun e => (hf g e.symm).2 rfl)).trans (hal g hgl)
  refine ⟨?_, World.cell?_of_block k2, World.frozen?_of_block k2, k2⟩
  rw [World.cell?_of_block (a := ⟨x, 0, none⟩) k1]
  exact (six_of hA).1
set_option maxRecDepth 100000 in
set_option maxHeartbeats 8000000 in
theorem say_ok (A : Option Addr) (n c : Nat) (hs : List Seat.At) (l : List Seat) (o : Ord) (w : World) (hl : Seats w A n c hs l) (h1 : Seat.chk l = 0) (h2 : o.chk = 0) (i : Nat) (hi : o.by_ = (i : Int)) (s : Seat) (hs0 : l[i]? = some s) (hg : s.gone = false) (h50 : s.waits.length < 50) (hn8 : n ≤ 8) :
    Calls Try.prog 31 #[.slice A n c, .agg o.cells.toArray] w (SayPost w n l o) := by
  have hA := Blk.new w (ordBlk o) 59 (0, 0)
  have hb0 := below_alloc0 w (.cells (ordBlk o).toArray 59)
  have hc := scheck_any A n c hs l _ (hl.later hb0)
  have ho := check_any o
  rw [h1] at hc
  rw [h2] at ho
  rw [Ord.cells_eq] at ho ⊢
  have hown := fun W (hW : Seats W A n c hs l) => own_any A n c hs l W hW
  unfold OwnPost at hown
  have hto : sayTo l o = l.set i ⟨s.waits ++ [o], s.late, s.gone⟩ := by
    unfold sayTo
    rw [hi, Int.toNat_natCast, hs0]
  obtain ⟨b, o0, k, rfl, hk0, hor, q0, q1, q2⟩ := (hl.later hb0).get hs0
  have hin : i < n := by have := (List.getElem?_eq_some_iff.1 hs0).1; rw [← hl.len]; exact this
  rw [hg] at q2
  obtain ⟨m, hm⟩ : ∃ m, s.waits.length = m := ⟨_, rfl⟩
  rw [hm] at h50 q0
  have HTO := Lib.hid hto
  have HL := Lib.hid hl
  have HS := Lib.hid hs0
  have HM := Lib.hid hm
  have HI := Lib.hid hi
  have HG := Lib.hid hg
  have hin' : ¬ (n : Int) ≤ (i : Int) := by omega
  have hin2 : (i : Int) < (n : Int) := by omega
  have hi0 : (0 : Int) ≤ (i : Int) := by omega
  have h50' : ((m : Int) == 50) = false := by rw [beq_eq_false_iff_ne]; omega
  obtain ⟨i0, hii, hz0, hz1, hz2⟩ := info_parts infoOrd
  obtain ⟨w1, HW1⟩ : ∃ w1, Hid (w.alloc (.cells (ordBlk o).toArray 59) = w1) := ⟨_, Lib.hid rfl⟩
  rw [HW1.out] at hA hb0 hc q0 q1 q2
  clear hl hto hs0 hm hi hg h1 h2 hk0 hor
  go_enter Try.func31, Try.ntmps31
  go_wp2_with fail
  rw [show w.alloc (.cells #[.int .i64 o.by_, .int .i64 o.kind, .int .i64 o.who, .int .i64 o.x, .int .i64 o.y, .int .i64 o.what] 59) = w1 from HW1.out]
  refine hc.mono ?_
  rintro e w2 ⟨rfl, hb2⟩
  clear hc
  have hA2 := hA.later hb2
  obtain ⟨p0, p1, p2, p3, p4, p5⟩ := six_of hA2
  rw [HI.out] at p0
  go_wp2_with fail
  rw [← HI.out]
  refine (ho _).mono ?_
  rintro e w3 ⟨rfl, hb3⟩
  clear ho p0 p1 p2 p3 p4 p5
  have hA3 := hA2.later hb3
  have hb13 := hb2.trans (hb3.mono hb2.size)
  obtain ⟨p0, p1, p2, p3, p4, p5⟩ := six_of hA3
  rw [HI.out] at p0
  have q0 := cell_later hb13 q0
  have q2 := cell_later hb13 q2
  go_wp2_with fail
  have hb03 := hb0.trans (hb13.mono hb0.size)
  refine (hown w3 (HL.out.later hb03)).mono ?_
  rintro e w4 ⟨A4, c4, hs4, rfl, hfresh, hb4⟩
  have hmine := hfresh.mine
  have HF := Lib.hid hfresh
  clear hfresh
  clear hown q0 q1 q2 p0 p1 p2 p3 p4 p5
  obtain ⟨g, c4', e, hgc, hgm⟩ := hmine.row.addr (by omega)
  injection e with e1 _ e2
  subst e1; subst e2
  have hA4 := hA3.later hb4
  obtain ⟨p0, p1, p2, p3, p4, p5⟩ := six_of hA4
  rw [HI.out] at p0
  obtain ⟨k4, hk4, hor4, hfr4, hne4, q0, q1, q2, f0⟩ := hmine.get HS.out
  have hown4 : Own w4 w3.heap.size 59 6 GO (.slice k4.A m k4.c) m (ordCells s.waits) := by
    obtain ⟨hx, rfl⟩ := List.getElem?_eq_some_iff.1 HS.out
    obtain ⟨hy, rfl⟩ := List.getElem?_eq_some_iff.1 hk4
    have := HF.out.owns i hy hx
    rw [HM.out] at this
    exact this
  rw [HM.out] at q0
  rw [HG.out] at q2
  have hbx : w.heap.size < w3.heap.size := hA3.lt
  have hgx : w3.heap.size ≤ g := (hmine.row.row.lt g rfl).1
  have hgl : g < w4.heap.size := (hmine.row.row.lt g rfl).2
  have hgne : ¬ g = w4.heap.size := by omega
  have hgne2 : ¬ w4.heap.size = g := by omega
  have hbl : w.heap.size < w4.heap.size := hA4.lt
  have hbne : ¬ w.heap.size = w4.heap.size := by omega
  have hbne2 : ¬ w4.heap.size = w.heap.size := by omega
  have HA4 := Lib.hid hA4
  have HM4 := Lib.hid hmine
  have hBB : Below w.heap.size w w4 := hb03.trans (hb4.mono hb03.size)
  have HRD := Lib.hid (show Rd ((w4.alloc (.cells #[.int .i64 (i : Int), .int .i64 o.kind, .int .i64 o.who, .int .i64 o.x, .int .i64 o.y, .int .i64 o.what] 59)).drew) 6 (some ⟨w4.heap.size, 0, none⟩) 1 o.cells from by have := (rd_ord w4 o).drewN 1; rw [HI.out] at this; exact this)
  have HOW := Lib.hid (show Own ((w4.alloc (.cells #[.int .i64 (i : Int), .int .i64 o.kind, .int .i64 o.who, .int .i64 o.x, .int .i64 o.y, .int .i64 o.what] 59)).drew) w3.heap.size 59 6 GO (.slice k4.A m k4.c) m (ordCells s.waits) from (hown4.later (below_alloc0 _ _)).drew)
  have HH := Lib.hid (hk4)
  have HSG : Hid (w3.heap.size ≤ g) := hgx
  have HXB : Hid (w.heap.size < w3.heap.size) := hbx
  have HFAR : Hid (∀ a, (Value.slice k4.A m k4.c).ownBlock = some a → w3.heap.size ≤ a ∧ a ≠ g) := by
    intro a ha
    refine ⟨(hown4.row.lt a ha).1, fun e => ?_⟩
    cases hka : k4.A with
    | none => rw [hka] at ha; cases ha
    | some x => rw [hka] at ha; injection ha with ha; exact hne4 x hka (by rw [ha, e])
  clear hA hA2 hA3 hA4 hmine hown4 hk4 hor4 hfr4 hne4 hb0 hb2 hb3 hb4 hb13 hb03
  go_wp2_with fail
  go_region_law (
    ((refine step_append_all _ rfl _ _ _ rfl w3.heap.size 59 i0 ordZero 6 48 Try.underlying45 hii hz0 hz1 hz2 rfl (by decide) GO ordZero_go (.slice k4.A m k4.c) m (ordCells s.waits) rfl HOW.out (some ⟨w4.heap.size, 0, none⟩) 1 1 o.cells rfl HRD.out (ord_one o) (ord_go o) (by unfold maxLen; omega) (by omega) (by simp; omega) ?_)
     intro v5 w5 hown5 hgrow5 _ hat5
     have hk5 := said_keep (i := i) HM4.out HA4.out HSG.out HXB.out HFAR.out hgrow5
     have p0 := hk5.1
     rw [HI.out] at p0
     have q0 := hk5.2.1.trans q0
     have f0 := hk5.2.2.1
     have HK5 := Lib.hid hk5.2.2.2
     have HG5 := Lib.hid hgrow5
     have HAT5 := Lib.hid hat5
     obtain ⟨A5, c5, rfl, _⟩ := hown5.shape
     have HO5 := Lib.hid hown5
     clear hk5 hown5 hgrow5 hat5))
  all_goals
    have hbl := below_alloc0 w4 (.cells #[.int .i64 (i : Int), .int .i64 o.kind, .int .i64 o.who, .int .i64 o.x, .int .i64 o.y, .int .i64 o.what] 59)
    have hmine := HF.out.said HS.out HH.out HM.out hbl.drew HG5.out HO5.out (by omega) HAT5.out
    rw [← HTO.out] at hmine
    have hb5 : Below w.heap.size w w5 := (hBB.trans (hbl.drew.mono hBB.size)).grown HG5.out (Nat.le_trans hBB.size hbl.drew.size) (fun q hq => by have := (HFAR.out q hq).1; have := HXB.out; omega)
    have hb6 := hb5.setCell (p := ⟨g, i * 3, none⟩) (by show w.heap.size ≤ g; have := HSG.out; have := HXB.out; omega) (.slice A5 (m + 1) c5)
    have hmine := hmine.down (show w.heap.size ≤ w3.heap.size by have := HXB.out; omega)
    have HMM := Lib.hid hmine
    clear hbl hmine hb5
    go_wp2_with fail
    go_ret2
    exact ⟨_, _, _, rfl, HMM.out, hb6⟩
end Go.Proofs.Ytmooknaljkeaaaa
