/-
  Seats of the call's own, which it may write; the walk of seat.own.
-/
import Derived.Test.YtmooknaljkeaaaaSeatR
import Derived.Laws.MakeOwn
set_option linter.unusedVariables false
namespace Go.Proofs.Ytmooknaljkeaaaa
open Go.RowKit

/-- An array of orders of the call's own: every cell of it is a number. -/
def Free (w : World) (B : Nat) (A : Option Addr) (c : Nat) : Prop :=
  A = none ∨ ∃ b o cur, A = some ⟨b, o, none⟩ ∧ B ≤ b ∧ w.heap[b]? = some (.cells cur 59 (0, 0)) ∧ o + c * 6 ≤ cur.size ∧ ∀ (j : Nat) u, cur[j]? = some u → ∃ n : Int, u = .int .i64 n
theorem Free.of_block {w w' : World} {B : Nat} {A : Option Addr} {c : Nat} (h : Free w B A c) (hb : ∀ a, A = some a → w'.heap[a.block]? = w.heap[a.block]?) : Free w' B A c := by
  rcases h with h | ⟨b, o, cur, rfl, h1, h2, h3⟩
  · exact .inl h
  · exact .inr ⟨b, o, cur, rfl, h1, (hb _ rfl).trans h2, h3⟩
theorem Free.of_own {w : World} {B n c : Nat} {A : Option Addr} {xs : List Value} (h : Own w B 59 6 GO (.slice A n c) n xs) : Free w B A c := by
  obtain ⟨_, h2⟩ := h
  rcases h2 with ⟨h2, _⟩ | ⟨g, cap, cur, hv, b, c1, d, e, f, i, hG⟩
  · injection h2 with h2; exact .inl h2
  · injection hv with h3 _ h4
    subst h3; subst h4
    exact .inr ⟨g, 0, cur, rfl, b, c1, by omega, fun j u hu => hG j u hu⟩
theorem Free.lt {w : World} {B c : Nat} {A : Option Addr} (h : Free w B A c) {a : Addr} (ha : A = some a) : B ≤ a.block ∧ a.block < w.heap.size := by
  rcases h with h | ⟨b, o, cur, h, h1, h2, h3⟩
  · rw [h] at ha; cases ha
  · rw [h] at ha
    obtain rfl := Option.some.inj ha
    exact ⟨h1, (Array.getElem?_eq_some_iff.1 h2).1⟩
def GS3 (_ : Nat) (_ : Value) : Prop := True
/-- Seats of the call's own: v is their slice; no array of orders lies in v's block. -/
structure Mine (w : World) (B : Nat) (v : Value) (n : Nat) (hs : List Seat.At) (l : List Seat) : Prop where
  len : l.length = n
  hlen : hs.length = n
  row : Own w B 49 3 GS3 v n (Seat.row hs l)
  ords : ∀ i (h1 : i < hs.length) (h2 : i < l.length), Ords w hs[i].A l[i].waits.length hs[i].c l[i].waits
  free : ∀ i (h1 : i < hs.length), Free w B hs[i].A hs[i].c
  apart : ∀ i (h1 : i < hs.length) a, hs[i].A = some a → v.ownBlock ≠ some a.block
theorem Mine.of_blocks {w w' : World} {B : Nat} {v : Value} {n : Nat} {hs : List Seat.At} {l : List Seat} (h : Mine w B v n hs l) (hb : ∀ g, g < w.heap.size → w'.heap[g]? = w.heap[g]?) : Mine w' B v n hs l :=
  ⟨h.len, h.hlen, h.row.of_block (B := 0) fun g hg => hb g (h.row.row.lt g hg).2, fun i h1 h2 => (h.ords i h1 h2).of_block fun a ha => hb _ ((h.free i h1).lt ha).2, fun i h1 => (h.free i h1).of_block fun a ha => hb _ ((h.free i h1).lt ha).2, h.apart⟩
theorem Mine.later {w w' : World} {B : Nat} {v : Value} {n : Nat} {hs : List Seat.At} {l : List Seat} (h : Mine w B v n hs l) (hb : Below w.heap.size w w') : Mine w' B v n hs l := h.of_blocks fun g hg => hb.block g hg
theorem Seat.row_app : ∀ (hs : List Seat.At) (l : List Seat) (h : Seat.At) (s : Seat), hs.length = l.length → Seat.row (hs ++ [h]) (l ++ [s]) = Seat.row hs l ++ Seat.cells h s
  | [], [], h, s, _ => by simp [Seat.row]
  | a :: hs, b :: l, h, s, e => by
    rw [List.cons_append, List.cons_append, Seat.row, Seat.row, Seat.row_app hs l h s (by simpa using e), List.append_assoc]
  | [], _ :: _, _, _, e => by simp at e
  | _ :: _, [], _, _, e => by simp at e
theorem Mine.push {w w' : World} {B : Nat} {v v' : Value} {n : Nat} {hs : List Seat.At} {l : List Seat} {h : Seat.At} {s : Seat} (hm : Mine w B v n hs l) {m : Nat} (hmn : s.waits.length = m)
    (hnew : Own w B 59 6 GO (.slice h.A m h.c) m (ordCells s.waits)) (hbig : m ≤ 2932031007317)
    (hfar : ∀ a, h.A = some a → v.ownBlock ≠ some a.block) (hown : Own w' B 49 3 GS3 v' (n + 1) (Seat.row hs l ++ Seat.cells h s)) (hg : w.grownBy w' v.ownBlock)
    (hat : v'.ownBlock = v.ownBlock ∨ v'.ownBlock = some w.heap.size) : Mine w' B v' (n + 1) (hs ++ [h]) (l ++ [s]) := by
  subst hmn
  have hlh := hm.hlen.trans hm.len.symm
  obtain ⟨A', c', e, hle, hmx, _, _, hnn⟩ := hnew.shape
  injection e with e1 _ e2
  subst e1; subst e2
  have hnf := Free.of_own hnew
  have hkeep : ∀ a : Addr, a.block < w.heap.size → v.ownBlock ≠ some a.block → w'.heap[a.block]? = w.heap[a.block]? := fun a h1 h2 => hg.block a.block h1 (fun e => h2 e.symm)
  have hO : Ords w h.A s.waits.length h.c s.waits := ⟨rfl, hle, hbig, by unfold maxLen at hmx; omega, fun hn => by have := hnn hn; injection this with _ h1 h2; exact ⟨h1, h2⟩, hnew.rd rfl⟩
  refine ⟨by rw [List.length_append, hm.len]; rfl, by rw [List.length_append, hm.hlen]; rfl, by rw [Seat.row_app _ _ _ _ hlh]; exact hown, ?_, ?_, ?_⟩
  · intro i h1 h2
    by_cases hi : i < hs.length
    · rw [List.getElem_append_left hi, List.getElem_append_left (by omega)]
      exact (hm.ords i hi (by omega)).of_block fun a ha => hkeep a ((hm.free i hi).lt ha).2 (hm.apart i hi a ha)
    · have e : i = hs.length := by simp at h1; omega
      subst e
      simp only [List.getElem_concat_length]
      have e2 : (l ++ [s])[hs.length]'h2 = s := by
        rw [List.getElem_append_right (by omega)]; simp [hlh]
      rw [e2]
      exact hO.of_block fun a ha => hkeep a (hnf.lt ha).2 (hfar a ha)
  · intro i h1
    by_cases hi : i < hs.length
    · rw [List.getElem_append_left hi]
      exact (hm.free i hi).of_block fun a ha => hkeep a ((hm.free i hi).lt ha).2 (hm.apart i hi a ha)
    · have e : i = hs.length := by simp at h1; omega
      subst e
      simp only [List.getElem_concat_length]
      exact hnf.of_block fun a ha => hkeep a (hnf.lt ha).2 (hfar a ha)
  · intro i h1 a ha
    have hlt : a.block < w.heap.size ∧ v.ownBlock ≠ some a.block := by
      by_cases hi : i < hs.length
      · rw [List.getElem_append_left hi] at ha
        exact ⟨((hm.free i hi).lt ha).2, hm.apart i hi a ha⟩
      · have e : i = hs.length := by simp at h1; omega
        subst e
        simp only [List.getElem_concat_length] at ha
        exact ⟨(hnf.lt ha).2, hfar a ha⟩
    rcases hat with hat | hat
    · rw [hat]; exact hlt.2
    · rw [hat]; intro h; injection h with h; omega
/-- Seats whose orders lie in arrays of their own, one by one. -/
structure Fresh (w : World) (B : Nat) (v : Value) (n : Nat) (hs : List Seat.At) (l : List Seat) : Prop where
  mine : Mine w B v n hs l
  owns : ∀ i (h1 : i < hs.length) (h2 : i < l.length), Own w B 59 6 GO (.slice hs[i].A l[i].waits.length hs[i].c) l[i].waits.length (ordCells l[i].waits)
  far : ∀ i j (h1 : i < hs.length) (h2 : j < hs.length), i ≠ j → ∀ a b, hs[i].A = some a → hs[j].A = some b → a.block ≠ b.block
theorem Fresh.later {w w' : World} {B : Nat} {v : Value} {n : Nat} {hs : List Seat.At} {l : List Seat} (h : Fresh w B v n hs l) (hb : Below w.heap.size w w') : Fresh w' B v n hs l :=
  ⟨h.mine.later hb, fun i h1 h2 => (h.owns i h1 h2).later hb, h.far⟩
theorem Fresh.push {w w' : World} {B : Nat} {v v' : Value} {n : Nat} {hs : List Seat.At} {l : List Seat} {h : Seat.At} {s : Seat} (hm : Fresh w B v n hs l) {m : Nat} (hmn : s.waits.length = m)
    (hnew : Own w B 59 6 GO (.slice h.A m h.c) m (ordCells s.waits)) (hbig : m ≤ 2932031007317)
    (hfar : ∀ a, h.A = some a → v.ownBlock ≠ some a.block) (hfar2 : ∀ i (h1 : i < hs.length) a b, hs[i].A = some a → h.A = some b → a.block ≠ b.block) (hown : Own w' B 49 3 GS3 v' (n + 1) (Seat.row hs l ++ Seat.cells h s)) (hg : w.grownBy w' v.ownBlock)
    (hat : v'.ownBlock = v.ownBlock ∨ v'.ownBlock = some w.heap.size) : Fresh w' B v' (n + 1) (hs ++ [h]) (l ++ [s]) := by
  refine ⟨hm.mine.push hmn hnew hbig hfar hown hg hat, ?_, ?_⟩
  · subst hmn
    have hlh := hm.mine.hlen.trans hm.mine.len.symm
    have key : ∀ (x : Option Addr) (n' c' : Nat) (xs : List Value), Own w B 59 6 GO (.slice x n' c') n' xs → (∀ a, x = some a → v.ownBlock ≠ some a.block) → Own w' B 59 6 GO (.slice x n' c') n' xs := by
      intro x n' c' xs ho hne
      refine ho.of_block (B := 0) fun g hg' => hg.block g (ho.row.lt g hg').2 fun e => ?_
      cases x with
      | none => cases hg'
      | some a => injection hg' with hg'; exact hne a rfl (by rw [← e, hg'])
    intro i h1 h2
    by_cases hi : i < hs.length
    · rw [List.getElem_append_left hi, List.getElem_append_left (by omega)]
      exact key _ _ _ _ (hm.owns i hi (by omega)) (hm.mine.apart i hi)
    · have e : i = hs.length := by simp at h1; omega
      subst e
      simp only [List.getElem_concat_length]
      have e2 : (l ++ [s])[hs.length]'h2 = s := by
        rw [List.getElem_append_right (by omega)]; simp [hlh]
      rw [e2]
      exact key _ _ _ _ hnew hfar
  · intro i j h1 h2 hij a b ha hb
    by_cases hi : i < hs.length
    · rw [List.getElem_append_left hi] at ha
      by_cases hj : j < hs.length
      · rw [List.getElem_append_left hj] at hb
        exact hm.far i j hi hj hij a b ha hb
      · have e : j = hs.length := by simp at h2; omega
        subst e
        simp only [List.getElem_concat_length] at hb
        exact hfar2 i hi a b ha hb
    · have e : i = hs.length := by simp at h1; omega
      subst e
      simp only [List.getElem_concat_length] at ha
      by_cases hj : j < hs.length
      · rw [List.getElem_append_left hj] at hb
        exact fun e => hfar2 j hj b a hb ha e.symm
      · exact absurd (by simp at h2; omega) hij
/-- They read as seats. -/
theorem Mine.seats {w : World} {B n c : Nat} {A : Option Addr} {hs : List Seat.At} {l : List Seat} (h : Mine w B (.slice A n c) n hs l) (hb : n ≤ 3518437208780) : Seats w A n c hs l := by
  obtain ⟨A', c', e, hle, hmx, hrd, _, hnn⟩ := h.row.shape
  injection e with e1 _ e2
  subst e1; subst e2
  exact ⟨h.len, h.hlen, ⟨hle, hb, by unfold maxLen at hmx; omega⟩, fun hn => by have := hnn hn; injection this with _ h1 h2; exact ⟨h1, h2⟩, hrd, h.ords⟩
def seatZero : Value := .agg #[.slice none 0 0, .int .i64 0, .bool false]
theorem infoSeat : (Try.prog.info? 49).map (fun i => (i.zero, i.size, i.bytes)) = some (some seatZero, 3, 40) := by kernel_rfl
theorem cells_one (h : Seat.At) (s : Seat) : ∀ u ∈ Seat.cells h s, u.oneCell' = true := by
  intro u hu
  unfold Seat.cells at hu
  simp only [List.mem_cons, List.not_mem_nil, or_false] at hu
  rcases hu with rfl | rfl | rfl <;> rfl
/-- make([]api.Seat, 0, n). -/
theorem make_own (w : World) (n : Nat) (hn : n ≤ 3518437208780) : ∃ w', (Instr.makeSlice 44 (.int .i64 0) (.int .i64 (n : Int))).run Try.prog w = .ok (.slice (some ⟨w.heap.size, 0, none⟩) 0 n) w' ∧
    Own w' w.heap.size 49 3 GS3 (.slice (some ⟨w.heap.size, 0, none⟩) 0 n) 0 [] ∧ Below w.heap.size w w' := by
  obtain ⟨i0, hi, hz0, hz1, hz2⟩ := info_parts infoSeat
  have h := run_make (P := Try.prog) w 44 49 i0 seatZero Try.underlying44 hi hz0 .i64 .i64 0 n (by omega) (by omega) (by rw [hz2]; omega) (by omega)
  simp only [Int.toNat_zero, Int.toNat_natCast] at h
  refine ⟨_, h, ⟨rfl, .inr ⟨w.heap.size, n, _, rfl, Nat.le_refl _, heap_alloc_new w _, Nat.zero_le _, by unfold maxLen; omega, by rw [size_madeCells, hz1], by simp, fun _ _ _ => trivial⟩⟩, (Below.refl _ _).alloc (Nat.le_refl _) _⟩
/-- What own tells. -/
def OwnPost (w : World) (n : Nat) (l : List Seat) (e : Ending) (w' : World) : Prop :=
  ∃ A c hs, e = .returned (.slice A n c) ∧ Fresh w' w.heap.size (.slice A n c) n hs l ∧ Below w.heap.size w w'
set_option maxRecDepth 100000 in
set_option maxHeartbeats 2000000 in
theorem own_any (A : Option Addr) (n c : Nat) (hs : List Seat.At) (l : List Seat) (w : World) (hl : Seats w A n c hs l) :
    Calls Try.prog 53 #[.slice A n c] w (OwnPost w n l) := by
  have hn := hl.cap.2.1
  have hlen := hl.len
  have hhlen := hl.hlen
  obtain ⟨i0, hi, hz0, hz1, hz2⟩ := info_parts infoSeat
  obtain ⟨wm, hmk, hown0, hb0⟩ := make_own w n hn
  have HL := Lib.hid hl
  have HO := Lib.hid hown0
  clear hl hown0
  go_enter Try.func53, Try.ntmps53
  go_wp2_with fail
  clear hmk
  go_loopw [3, 5, 11] (fun v _ iv wr => ∃ (k : Nat) (hs' : List Seat.At), k ≤ n ∧ iv = .int .i64 (k : Int) ∧ Hid (Fresh wr w.heap.size v k hs' (l.take k)) ∧ Below w.heap.size w wr) (fun _ _ iv _ => n - (intOf iv).toNat)
  case atStart => exact ⟨0, [], Nat.zero_le _, rfl, ⟨⟨rfl, rfl, HO.out, (fun i h => by simp at h), (fun i h => by simp at h), (fun i h => by simp at h)⟩, (fun i h => by simp at h), (fun i j h => by simp at h)⟩, hb0⟩
  case round =>
    clear hb0
    obtain ⟨k, hs', hk, rfl, HM, hb⟩ := hrel
    by_cases hlt : k < n
    · obtain ⟨b, o, rfl, hcell⟩ := (HL.out.later hb).three (by omega)
      obtain ⟨q0, q1, q2⟩ := hcell k (by omega) (by omega)
      have ho := (HL.out.ords k (by omega) (by omega)).later hb
      have htk : l.take (k + 1) = l.take k ++ [l[k]'(by omega)] := List.take_succ_eq_append_getElem (by omega)
      have HTK := Lib.hid htk
      have HO := Lib.hid ho
      clear hcell htk ho
      generalize l[k]'(by omega) = s at *
      generalize hs[k]'(by omega) = h at *
      obtain ⟨m, HMM⟩ : ∃ m, Hid (s.waits.length = m) := ⟨_, Lib.hid rfl⟩
      have HO : Hid (Ords wr h.A m h.c s.waits) := by have := HO.out; rw [HMM.out] at this; exact this
      rw [HMM.out] at q0
      have hA := Blk.new wr [.slice h.A m h.c, .int .i64 s.late, .bool s.gone] 49 (0, 0)
      go_wp2_with fail
      refine (clone_o (HO.out.later (below_alloc0 _ _))).mono ?_
      rintro e w2 ⟨A', c', rfl, hown, hle, hnone, hb2⟩
      have hA2 := hA.later hb2
      have c0 : w2.cell? ⟨wr.heap.size, 0, none⟩ = some (.slice h.A m h.c) := hA2.cell 0
      have c1 : w2.cell? ⟨wr.heap.size, 1, none⟩ = some (.int .i64 s.late) := hA2.cell 1
      have c2 : w2.cell? ⟨wr.heap.size, 2, none⟩ = some (.bool s.gone) := hA2.cell 2
      have f0 : w2.frozen? ⟨wr.heap.size, 0, none⟩ = false := hA2.free 0 (.inr (Nat.zero_le _))
      have hX : wr.heap.size < w2.heap.size := hA2.lt
      have hb3 : Below wr.heap.size wr (w2.setCell ⟨wr.heap.size, 0, none⟩ (.slice A' m c')) := ((below_alloc0 _ _).trans (hb2.mono (by simp))).setCell (p := ⟨wr.heap.size, 0, none⟩) (Nat.le_refl _) _
      have hsz : (w2.setCell ⟨wr.heap.size, 0, none⟩ (.slice A' m c')).heap.size = w2.heap.size := by simp [World.setCell]
      have hb4 : Below wr.heap.size wr ((w2.setCell ⟨wr.heap.size, 0, none⟩ (.slice A' m c')).alloc (.cells #[.slice A' m c', .int .i64 s.late, .bool s.gone] 49)) := hb3.alloc hb3.size _
      have HM4 := Lib.hid (HM.out.later hb4)
      have hfar : A' = none ∨ ∃ a, A' = some a ∧ wr.heap.size < a.block ∧ a.block < w2.heap.size := by
        obtain ⟨A2, c2', e, _, _, _, hbd, _⟩ := hown.shape
        injection e with e1 _ e2
        subst e1
        cases A' with
        | none => exact .inl rfl
        | some a => exact .inr ⟨a, rfl, by have := (hbd a rfl).1; simp at this; omega, (hbd a rfl).2⟩
      have HFAR := Lib.hid hfar
      clear hA hA2 hfar
      have hown3 : Own ((w2.setCell ⟨wr.heap.size, 0, none⟩ (.slice A' m c')).alloc (.cells #[.slice A' m c', .int .i64 s.late, .bool s.gone] 49)) w.heap.size 59 6 GO (.slice A' m c') m (ordCells s.waits) := by
        refine Own.later ?_ (below_alloc0 _ _)
        refine ((hown.mono (by have := hb.size; simp; omega)).other ?_ _)
        intro e
        rcases HFAR.out with h | ⟨a, h, h1, h2⟩
        · rw [h] at e; cases e
        · rw [h] at e; injection e with e; exact absurd (show a.block = wr.heap.size from e) (by omega)
      have HOWN := Lib.hid hown3
      clear hown hown3 hnone
      
      have HW5 : ∃ W5, Hid (W5 = (w2.setCell ⟨wr.heap.size, 0, none⟩ (.slice A' m c')).alloc (.cells #[.slice A' m c', .int .i64 s.late, .bool s.gone] 49)) := ⟨_, Lib.hid rfl⟩
      have hrd : Rd ((w2.setCell ⟨wr.heap.size, 0, none⟩ (.slice A' m c')).alloc (.cells #[.slice A' m c', .int .i64 s.late, .bool s.gone] 49)) 3 (some ⟨w2.heap.size, 0, none⟩) 1 (Seat.cells ⟨A', c'⟩ s) := by
        have hB := Blk.new (w2.setCell ⟨wr.heap.size, 0, none⟩ (.slice A' m c')) [.slice A' m c', .int .i64 s.late, .bool s.gone] 49 (0, 0)
        rw [hsz] at hB
        refine ⟨rfl, fun _ => ⟨w2.heap.size, 0, rfl, fun j u hu => ?_⟩⟩
        rw [Nat.zero_add, hB.cell j, ← hu]
        unfold Seat.cells
        rw [HMM.out]
      have HRD := Lib.hid hrd
      clear hrd HW5
      go_wp2_with (at_builtin; refine wpList_append_all _ rfl _ _ 44 rfl w.heap.size 49 i0 seatZero 3 40 Try.underlying44 hi hz0 hz1 hz2 rfl (by decide) GS3 (fun _ _ _ => trivial) _ k (Seat.row hs' (l.take k)) rfl ?g0 (some ⟨w2.heap.size, 0, none⟩) 1 1 (Seat.cells ⟨A', c'⟩ s) rfl HRD.out (cells_one _ _) (fun _ _ _ => trivial) ?g4 ?g5 ?g6 ?_)
      case g0 => exact HM4.out.mine.row
      case g4 => unfold maxLen; omega
      case g5 => omega
      case g6 => exact Nat.le_trans hb.size hb4.size
      intro v' w6 hown6 hgrow6 _ hat6
      have hmb : m ≤ 2932031007317 := HO.out.big
      have hm6 : Fresh w6 w.heap.size v' (k + 1) (hs' ++ [⟨A', c'⟩]) (l.take k ++ [s]) := by
        refine HM4.out.push (h := ⟨A', c'⟩) (s := s) HMM.out HOWN.out hmb ?_ ?_ hown6 hgrow6 (hat6.imp id fun h => by rw [h]; simp [World.setCell])
        · intro a ha e
          rcases HFAR.out with h1 | ⟨a2, h1, h2, h3⟩
          · rw [h1] at ha; cases ha
          · rw [h1] at ha
            obtain rfl := Option.some.inj ha
            have := (HM.out.mine.row.row.lt _ e).2
            omega
        · intro j hj a b ha hb e
          rcases HFAR.out with h1 | ⟨a2, h1, h2, h3⟩
          · rw [h1] at hb; cases hb
          · rw [h1] at hb
            obtain rfl := Option.some.inj hb
            have := ((HM.out.mine.free j hj).lt ha).2
            omega
      rw [← HTK.out] at hm6
      have hb6 : Below w.heap.size w w6 := (hb.trans (hb4.mono hb.size)).grown hgrow6 (Nat.le_trans hb.size hb4.size) (fun q hq => (HM4.out.mine.row.row.lt q hq).1)
      have HM6 := Lib.hid hm6
      clear hm6 hgrow6 hat6 hown6
      go_wp2_with fail
      go_roundw
      case rel => exact ⟨k + 1, hs' ++ [⟨A', c'⟩], by omega, by go_num, HM6, hb6⟩
      case measure => simp [intOf]; omega
    · obtain rfl : k = n := by omega
      have hm := HM.out
      rw [List.take_of_length_le (by omega)] at hm
      obtain ⟨A2, c2, rfl, _⟩ := hm.mine.row.shape
      have HM := Lib.hid hm
      clear hm
      go_wp2_with fail
      go_ret
      exact ⟨A2, c2, hs', rfl, HM.out, hb⟩
end Go.Proofs.Ytmooknaljkeaaaa
