/-
  What a law has said and what it was told, in slices of its own beside seats; the plain law of SeatRuns.
-/
import Derived.Test.YtmooknaljkeaaaaSeatT
import Derived.Test.YtmooknaljkeaaaaSeatKeeps
set_option linter.unusedVariables false
namespace Go.Proofs.Ytmooknaljkeaaaa
open Go.RowKit

theorem Seat.chk_of {l : List Seat} (h1 : 1 ≤ l.length) (h8 : l.length ≤ 8) (h50 : ∀ j (hj : j < l.length), l[j].waits.length ≤ 50) (hr : ∀ j (hj : j < l.length), l[j].right (j : Int) = true) : Seat.chk l = 0 := by
  refine Seat.chk_zero h1 h8 ?_ ((rightAll_iff 0 l).2 fun j hj => by rw [Int.zero_add]; exact hr j hj)
  rw [List.any_eq_false]
  intro s hs
  obtain ⟨j, hj, rfl⟩ := List.mem_iff_getElem.1 hs
  have := h50 j hj
  unfold longS
  simp
  omega
theorem Seat.waits50 {l : List Seat} (h : Seat.chk l = 0) : ∀ s ∈ l, s.waits.length ≤ 50 := (Seat.good h).2.2.2.2.1
theorem closed_chk {most : Nat} {l0 l : List Seat} {out : List Ord} (h0 : Seat.chk l0 = 0) (h : Seat.Closed most l0 l out) : Seat.chk l = 0 := by
  obtain ⟨a, b⟩ := closed_right h0 h
  have hl := h.kept.len
  have hg := Seat.good h0
  exact Seat.chk_of (by omega) (by omega) a b
theorem say_split {l : List Seat} {o : Ord} (h : sayCode l o = 0) : Seat.chk l = 0 ∧ o.chk = 0 ∧ ∃ (i : Nat) (s : Seat), o.by_ = (i : Int) ∧ l[i]? = some s ∧ s.gone = false ∧ s.waits.length ≠ 50 ∧ sayTo l o = l.set i ⟨s.waits ++ [o], s.late, s.gone⟩ := by
  by_cases h1 : Seat.chk l = 0
  · by_cases h2 : o.chk = 0
    · obtain ⟨hb0, _⟩ := Ord.by_range h2
      obtain ⟨i, hi⟩ := Int.eq_ofNat_of_zero_le hb0
      unfold sayCode at h
      rw [if_neg (by rw [h1]; simp), if_neg (by rw [h2]; simp), hi] at h
      have hi2 : o.by_.toNat = i := by rw [hi]; rfl
      have h : (match l[i]? with | none => (7 : Int) | some s => if s.gone then 9 else if s.waits.length = 50 then 6 else 0) = 0 := h
      cases hs : l[i]? with
      | none => rw [hs] at h; cases h
      | some s =>
        rw [hs] at h
        simp only at h
        cases hg : s.gone with
        | true => rw [hg] at h; simp at h
        | false =>
          rw [hg] at h
          refine ⟨h1, h2, i, s, hi, hs, hg, fun e => ?_, ?_⟩
          · rw [if_pos e] at h; simp at h
          · unfold sayTo
            rw [hi2, hs]
    · unfold sayCode at h; rw [if_neg (by rw [h1]; simp), if_pos h2] at h; exact absurd h h2
  · unfold sayCode at h; rw [if_pos h1] at h; exact absurd h h1
theorem say_chk {l : List Seat} {o : Ord} (h : sayCode l o = 0) : Seat.chk (sayTo l o) = 0 ∧ (sayTo l o).length = l.length := by
  obtain ⟨h1, h2, i, s, hi, hs, hg, h50, hto⟩ := say_split h
  obtain ⟨g1, g8, _, _, gw, _⟩ := Seat.good h1
  have hr := Seat.rights h1
  obtain ⟨hil, rfl⟩ := List.getElem?_eq_some_iff.1 hs
  rw [hto]
  refine ⟨Seat.chk_of (by rw [List.length_set]; exact g1) (by rw [List.length_set]; exact g8) ?_ ?_, List.length_set⟩
  · intro j hj
    rw [List.length_set] at hj
    by_cases e : i = j
    · subst e
      rw [List.getElem_set_self]
      have := gw _ (List.getElem_mem hj)
      simp
      omega
    · rw [List.getElem_set_ne e]; exact gw _ (List.getElem_mem hj)
  · intro j hj
    rw [List.length_set] at hj
    by_cases e : i = j
    · subst e
      rw [List.getElem_set_self]
      have := hr i hj
      unfold Seat.right at this ⊢
      simp only [hg, Bool.not_false, Bool.true_or, Bool.and_true, Bool.and_eq_true, List.all_append] at this ⊢
      refine ⟨this.1, this.2, ?_⟩
      simp [hi, Ord.chk_ok.1 h2]
    · rw [List.getElem_set_ne e]; exact hr j hj
/-- What was told of each, and what waits still, is what was said. -/
structure Runs (p : Nat) (l : List Seat) (said told : List Ord) : Prop where
  chk : Seat.chk l = 0
  len : l.length = p
  keeps : ∀ j (hj : j < l.length), ofP j told ++ l[j].waits = ofP j said
theorem Runs.say {p : Nat} {l : List Seat} {said told : List Ord} (h : Runs p l said told) {o : Ord} (hc : sayCode l o = 0) : Runs p (sayTo l o) (said ++ [o]) told := by
  obtain ⟨h1, h2⟩ := say_chk hc
  obtain ⟨_, _, i, s, hi, hs, hg, h50, hto⟩ := say_split hc
  obtain ⟨hil, rfl⟩ := List.getElem?_eq_some_iff.1 hs
  refine ⟨h1, by rw [h2]; exact h.len, ?_⟩
  rw [hto]
  intro j hj
  rw [List.length_set] at hj
  have hk := h.keeps j hj
  by_cases e : i = j
  · subst e
    rw [List.getElem_set_self, ofP_app, ofP_one_self hi, ← List.append_assoc, hk]
  · rw [List.getElem_set_ne e, ofP_app, ofP_one_other (by rw [hi]; omega), List.append_nil]; exact hk
theorem Runs.close {p most : Nat} {l l' : List Seat} {said told out : List Ord} (h : Runs p l said told) (hc : Seat.Closed most l l' out) : Runs p l' said (told ++ out) := by
  refine ⟨closed_chk h.chk hc, by rw [hc.kept.len]; exact h.len, fun j hj => ?_⟩
  have hj0 : j < l.length := by rw [← hc.kept.len]; exact hj
  rw [ofP_app, List.append_assoc, hc.kept.waits j hj hj0]
  exact h.keeps j hj0
/-- A slice that lies in none of the seats' blocks. -/
def Off (u v : Value) (hs : List Seat.At) : Prop := (∀ g, v.ownBlock = some g → u.ownBlock ≠ some g) ∧ ∀ i (h1 : i < hs.length) a, hs[i].A = some a → u.ownBlock ≠ some a.block
theorem Mine.grown2 {w w' : World} {B n : Nat} {v u : Value} {hs : List Seat.At} {l : List Seat} (h : Mine w B v n hs l) (hl : Off u v hs) (hg : w.grownBy w' u.ownBlock) : Mine w' B v n hs l :=
  ⟨h.len, h.hlen, h.row.of_block (B := 0) fun g hg' => hg.block g (h.row.row.lt g hg').2 (fun e => hl.1 g hg' e.symm), fun i h1 h2 => (h.ords i h1 h2).of_block fun a ha => hg.block _ ((h.free i h1).lt ha).2 (fun e => hl.2 i h1 a ha e.symm), fun i h1 => (h.free i h1).of_block fun a ha => hg.block _ ((h.free i h1).lt ha).2 (fun e => hl.2 i h1 a ha e.symm), h.apart⟩
theorem Off.grow {w : World} {B n : Nat} {v u u' : Value} {hs : List Seat.At} {l : List Seat} (hm : Mine w B v n hs l) (h : Off u v hs) (hat : u'.ownBlock = u.ownBlock ∨ u'.ownBlock = some w.heap.size) : Off u' v hs := by
  rcases hat with hat | hat
  · unfold Off; rw [hat]; exact h
  · refine ⟨fun g hg => ?_, fun i h1 a ha => ?_⟩
    · rw [hat]; intro e; injection e with e; have := (hm.row.row.lt g hg).2; omega
    · rw [hat]; intro e; injection e with e; have := ((hm.free i h1).lt ha).2; omega
theorem Off.new {w w' : World} {B B' n k : Nat} {v u : Value} {hs : List Seat.At} {l : List Seat} {xs : List Value} (hm : Mine w' B v n hs l) (ho : Own w B' 59 6 GO u k xs) (hB : w.heap.size ≤ B) : Off u v hs := by
  refine ⟨fun g hg e => ?_, fun i h1 a ha e => ?_⟩
  · have := (hm.row.row.lt g hg).1; have := (ho.row.lt g e).2; omega
  · have := ((hm.free i h1).lt ha).1; have := (ho.row.lt _ e).2; omega
/-- Amid SeatRuns. -/
structure Run (w wr : World) (p : Nat) (A : Option Addr) (c : Nat) (hs : List Seat.At) (l : List Seat) (said told : List Ord) (vs vt : Value) : Prop where
  mine : Mine wr w.heap.size (.slice A p c) p hs l
  sown : Own wr w.heap.size 59 6 GO vs said.length (ordCells said)
  town : Own wr w.heap.size 59 6 GO vt told.length (ordCells told)
  soff : Off vs (.slice A p c) hs
  toff : Off vt (.slice A p c) hs
  apart : ∀ g, vs.ownBlock = some g → vt.ownBlock ≠ some g
  below : Below w.heap.size w wr
  law : Runs p l said told
theorem Run.later {w wr w' : World} {p : Nat} {A : Option Addr} {c : Nat} {hs : List Seat.At} {l : List Seat} {said told : List Ord} {vs vt : Value} (h : Run w wr p A c hs l said told vs vt) (hb : Below wr.heap.size wr w') : Run w w' p A c hs l said told vs vt :=
  ⟨h.mine.later hb, h.sown.later hb, h.town.later hb, h.soff, h.toff, h.apart, h.below.trans (hb.mono h.below.size), h.law⟩
/-- Seats are new, and one order more was said. -/
theorem Run.say {w wr w2 w3 w4 : World} {p B : Nat} {A A' : Option Addr} {c c' : Nat} {hs hs' : List Seat.At} {l : List Seat} {said told : List Ord} {vs vt vs' : Value} {o : Ord} (h : Run w wr p A c hs l said told vs vt)
    (hb2 : Below wr.heap.size wr w2) (hm : Mine w2 B (.slice A' p c') p hs' (sayTo l o)) (hB : wr.heap.size ≤ B) (hb3 : Below w2.heap.size w2 w3)
    (hown : Own w4 w.heap.size 59 6 GO vs' (said.length + 1) (ordCells said ++ o.cells)) (hg : w3.grownBy w4 vs.ownBlock) (hat : vs'.ownBlock = vs.ownBlock ∨ vs'.ownBlock = some w3.heap.size) (hc : sayCode l o = 0) :
    Run w w4 p A' c' hs' (sayTo l o) (said ++ [o]) told vs' vt := by
  have hm3 := hm.later hb3
  have hso : Off vs (.slice A' p c') hs' := Off.new hm h.sown hB
  have hto : Off vt (.slice A' p c') hs' := Off.new hm h.town hB
  have hb23 : Below wr.heap.size wr w3 := hb2.trans (hb3.mono hb2.size)
  have ht3 := h.town.later hb23
  have hbase : w.heap.size ≤ B := Nat.le_trans h.below.size hB
  refine ⟨(hm3.grown2 hso hg).down hbase, by rw [List.length_append, ordCells_app, ordCells_one]; exact hown, ht3.of_block (B := 0) fun g hg' => hg.block g (ht3.row.lt g hg').2 (fun e => h.apart g e.symm hg'), Off.grow hm3 hso hat, hto, ?_, (h.below.trans (hb23.mono h.below.size)).grown hg (Nat.le_trans h.below.size hb23.size) (fun k hk => (h.sown.row.lt k hk).1), h.law.say hc⟩
  intro g hg1 hg2
  rcases hat with hat | hat
  · rw [hat] at hg1; exact h.apart g hg1 hg2
  · rw [hat] at hg1; injection hg1 with hg1; have := (ht3.row.lt g hg2).2; omega
/-- A turn is closed, and what was told is laid to what was told before. -/
theorem Run.close {w wr w2 w4 : World} {p B most : Nat} {A A' : Option Addr} {c c' : Nat} {hs hs' : List Seat.At} {l l' : List Seat} {said told out : List Ord} {vs vt vt' : Value} (h : Run w wr p A c hs l said told vs vt)
    (hb2 : Below wr.heap.size wr w2) (hm : Mine w2 B (.slice A' p c') p hs' l') (hB : wr.heap.size ≤ B)
    (hown : Own w4 w.heap.size 59 6 GO vt' (told.length + out.length) (ordCells told ++ ordCells out)) (hg : w2.grownBy w4 vt.ownBlock) (hat : vt'.ownBlock = vt.ownBlock ∨ vt'.ownBlock = some w2.heap.size) (hc : Seat.Closed most l l' out) :
    Run w w4 p A' c' hs' l' said (told ++ out) vs vt' := by
  have hso : Off vs (.slice A' p c') hs' := Off.new hm h.sown hB
  have hto : Off vt (.slice A' p c') hs' := Off.new hm h.town hB
  have hs2 := h.sown.later hb2
  have hbase : w.heap.size ≤ B := Nat.le_trans h.below.size hB
  refine ⟨(hm.grown2 hto hg).down hbase, hs2.of_block (B := 0) fun g hg' => hg.block g (hs2.row.lt g hg').2 (fun e => h.apart g hg' e.symm), by rw [List.length_append, ordCells_app]; exact hown, hso, Off.grow hm hto hat, ?_, (h.below.trans (hb2.mono h.below.size)).grown hg (Nat.le_trans h.below.size hb2.size) (fun k hk => (h.town.row.lt k hk).1), h.law.close hc⟩
  intro g hg1 hg2
  rcases hat with hat | hat
  · rw [hat] at hg2; exact h.apart g hg1 hg2
  · rw [hat] at hg2; injection hg2 with hg2; have := (hs2.row.lt g hg1).2; omega
theorem ords_of_own {w : World} {B n : Nat} {A : Option Addr} {c : Nat} {l : List Ord} (h : Own w B 59 6 GO (.slice A n c) n (ordCells l)) (hn : l.length = n) (hb : n ≤ 1000000) : Ords w A n c l := by
  obtain ⟨A', c', e, hle, hmx, hrd, _, hnn⟩ := h.shape
  injection e with e1 _ e2
  subst e1; subst e2
  exact ⟨hn, hle, by omega, by unfold maxLen at hmx; omega, fun h => by have := hnn h; injection this with _ h1 h2; exact ⟨h1, h2⟩, hrd⟩
end Go.Proofs.Ytmooknaljkeaaaa
