/-
  Seats that may be written, told loosely: the row is one's own, each array of orders holds numbers alone.
-/
import Derived.Test.YtmooknaljkeaaaaSeatT
import Derived.Test.YtmooknaljkeaaaaSeatL
import Derived.Test.YtmooknaljkeaaaaSeatSame
set_option linter.unusedVariables false
namespace Go.Proofs.Ytmooknaljkeaaaa
open Go.RowKit

structure Loose (w : World) (B : Nat) (v : Value) (n : Nat) (hs : List Seat.At) (l : List Seat) : Prop where
  len : l.length = n
  hlen : hs.length = n
  row : Own w B 49 3 GS3 v n (Seat.row hs l)
  free : ∀ i (h1 : i < hs.length), Free w B hs[i].A hs[i].c
  cap : ∀ i (h1 : i < hs.length) (h2 : i < l.length), l[i].waits.length ≤ hs[i].c ∧ hs[i].c ≤ 9223372036854775807 ∧ (hs[i].A = none → hs[i].c = 0)
theorem Mine.loose {w : World} {B : Nat} {v : Value} {n : Nat} {hs : List Seat.At} {l : List Seat} (h : Mine w B v n hs l) : Loose w B v n hs l :=
  ⟨h.len, h.hlen, h.row, h.free, fun i h1 h2 => ⟨(h.ords i h1 h2).cap, (h.ords i h1 h2).top, fun hn => ((h.ords i h1 h2).nil hn).2⟩⟩
theorem Loose.empty (w : World) (B : Nat) : Loose w B (.slice none 0 0) 0 [] [] := ⟨rfl, rfl, Own.nil _ _ _ _ _, (fun i h => by simp at h), (fun i h => by simp at h)⟩
theorem Loose.later {w w' : World} {B : Nat} {v : Value} {n : Nat} {hs : List Seat.At} {l : List Seat} (h : Loose w B v n hs l) (hb : Below w.heap.size w w') : Loose w' B v n hs l :=
  ⟨h.len, h.hlen, h.row.later hb, fun i h1 => (h.free i h1).of_block fun a ha => hb.block _ ((h.free i h1).lt ha).2, h.cap⟩
theorem Free.down {w : World} {B B' : Nat} {A : Option Addr} {c : Nat} (h : Free w B A c) (hb : B' ≤ B) : Free w B' A c := by
  rcases h with h | ⟨b, o, cur, h, h2, h3⟩
  · exact .inl h
  · exact .inr ⟨b, o, cur, h, Nat.le_trans hb h2, h3⟩
theorem Loose.down {w : World} {B B' : Nat} {v : Value} {n : Nat} {hs : List Seat.At} {l : List Seat} (h : Loose w B v n hs l) (hb : B' ≤ B) : Loose w B' v n hs l :=
  ⟨h.len, h.hlen, h.row.mono hb, fun i h1 => (h.free i h1).down hb, h.cap⟩
/-- Is this block an array of orders that holds numbers alone? -/
def OrdsAt (w : World) (b : Nat) : Prop := ∃ cur, w.heap[b]? = some (.cells cur 59 (0, 0)) ∧ ∀ (j : Nat) u, cur[j]? = some u → ∃ n : Int, u = .int .i64 n
theorem Own.typed {w : World} {base e size n : Nat} {G : Nat → Value → Prop} {v : Value} {xs : List Value} (h : Own w base e size G v n xs) {g : Nat} (hg : v.ownBlock = some g) : ∃ cur, w.heap[g]? = some (.cells cur e (0, 0)) := by
  obtain ⟨_, h2⟩ := h
  rcases h2 with ⟨rfl, _⟩ | ⟨g', cap, cur, rfl, b, hh, _⟩
  · cases hg
  · injection hg with hg; rw [← hg]; exact ⟨cur, hh⟩
theorem Own.not_ords {w : World} {B n : Nat} {v : Value} {xs : List Value} {b : Nat} (h : Own w B 49 3 GS3 v n xs) (hb : OrdsAt w b) : v.ownBlock ≠ some b := by
  intro e
  obtain ⟨cur, h1⟩ := h.typed e
  obtain ⟨cur2, h2, _⟩ := hb
  rw [h1] at h2
  injection h2 with h2
  injection h2 with _ h2
  exact absurd h2 (by decide)
theorem Free.at_ {w : World} {B c : Nat} {A : Option Addr} (h : Free w B A c) {a : Addr} (ha : A = some a) : OrdsAt w a.block := by
  rcases h with h | ⟨b, o, cur, h, _, h2, _, h3⟩
  · rw [h] at ha; cases ha
  · rw [h] at ha; obtain rfl := Option.some.inj ha; exact ⟨cur, h2, h3⟩
theorem Free.store {w : World} {B c : Nat} {A : Option Addr} (h : Free w B A c) {b j : Nat} (k : Int) : Free (w.setCell ⟨b, j, none⟩ (.int .i64 k)) B A c := by
  rcases h with h | ⟨b', o, cur, h, h1, h2, h3, h4⟩
  · exact .inl h
  · by_cases e : b' = b
    · subst e
      refine .inr ⟨b', o, cur.setIfInBounds j (.int .i64 k), h, h1, ?_, by simpa using h3, ?_⟩
      · simp only [World.setCell, Array.getElem?_modify, h2]
        simp
      · intro i u hu
        by_cases hij : j = i
        · subst hij
          have hlt : j < cur.size := by
            have := (Array.getElem?_eq_some_iff.1 hu).1
            simpa using this
          rw [Array.getElem?_setIfInBounds_self_of_lt hlt] at hu
          exact ⟨k, (Option.some.inj hu).symm⟩
        · rw [Array.getElem?_setIfInBounds_ne hij] at hu
          exact h4 i u hu
    · exact .inr ⟨b', o, cur, h, h1, (heap_setCell_other _ _ _ _ e).trans h2, h3, h4⟩
theorem Loose.store {w : World} {B : Nat} {v : Value} {n : Nat} {hs : List Seat.At} {l : List Seat} (h : Loose w B v n hs l) {b j : Nat} (hb : OrdsAt w b) (k : Int) : Loose (w.setCell ⟨b, j, none⟩ (.int .i64 k)) B v n hs l :=
  ⟨h.len, h.hlen, h.row.other (h.row.not_ords hb) _, fun i h1 => (h.free i h1).store k, h.cap⟩
/-- Another one's row is written. -/
theorem Loose.aside {w : World} {B : Nat} {v : Value} {n : Nat} {hs : List Seat.At} {l : List Seat} (h : Loose w B v n hs l) {g j : Nat} (hg : v.ownBlock ≠ some g) (hgt : ∃ cur, w.heap[g]? = some (.cells cur 49 (0, 0))) (u : Value) : Loose (w.setCell ⟨g, j, none⟩ u) B v n hs l := by
  refine ⟨h.len, h.hlen, h.row.other hg _, fun i h1 => (h.free i h1).of_block fun a ha => heap_setCell_other _ _ _ _ fun e => ?_, h.cap⟩
  obtain ⟨cur, h2⟩ := hgt
  obtain ⟨cur2, h3, _⟩ := (h.free i h1).at_ ha
  rw [e, h2] at h3
  injection h3 with h3
  injection h3 with _ h3
  exact absurd h3 (by decide)
theorem Free.aside {w : World} {B c : Nat} {A : Option Addr} (h : Free w B A c) {g j : Nat} (hgt : ∃ cur, w.heap[g]? = some (.cells cur 49 (0, 0))) (u : Value) : Free (w.setCell ⟨g, j, none⟩ u) B A c := by
  refine h.of_block fun a ha => heap_setCell_other _ _ _ _ fun e => ?_
  obtain ⟨cur, h2⟩ := hgt
  obtain ⟨cur2, h3, _⟩ := h.at_ ha
  rw [e, h2] at h3
  injection h3 with h3
  injection h3 with _ h3
  exact absurd h3 (by decide)
/-- One's own row is written: how often late. -/
theorem Loose.late {w : World} {B g c n : Nat} {hs : List Seat.At} {l : List Seat} (h : Loose w B (.slice (some ⟨g, 0, none⟩) n c) n hs l) (i : Nat) (hi : i < l.length) (x : Int) :
    Loose (w.setCell ⟨g, i * 3 + 1, none⟩ (.int .i64 x)) B (.slice (some ⟨g, 0, none⟩) n c) n hs (l.set i ⟨l[i].waits, x, l[i].gone⟩) := by
  have hih : i < hs.length := by rw [h.hlen, ← h.len]; exact hi
  have hlh := h.hlen.trans h.len.symm
  refine ⟨by rw [List.length_set]; exact h.len, h.hlen, ?_, fun j h1 => (h.free j h1).aside (h.row.typed rfl) _, ?_⟩
  · have h2 := h.row.stored (i * 3 + 1) (.int .i64 x) trivial
    rw [Seat.row_set hs l hlh i 1 hi (by decide) hs[i] ⟨l[i].waits, x, l[i].gone⟩ _ rfl, List.set_getElem_self] at h2
    exact h2
  · intro j h1 h2
    rw [List.length_set] at h2
    have := h.cap j h1 h2
    by_cases e : i = j
    · subst e; rw [List.getElem_set_self]; exact this
    · rw [List.getElem_set_ne e]; exact this
theorem Loose.cells {w : World} {B g c n : Nat} {hs : List Seat.At} {l : List Seat} (h : Loose w B (.slice (some ⟨g, 0, none⟩) n c) n hs l) (i : Nat) (hi : i < l.length) (hih : i < hs.length) :
    w.cell? ⟨g, i * 3, none⟩ = some (.slice hs[i].A l[i].waits.length hs[i].c) ∧ w.cell? ⟨g, i * 3 + 1, none⟩ = some (.int .i64 l[i].late) ∧ w.frozen? ⟨g, i * 3 + 1, none⟩ = false := by
  have hlh := h.hlen.trans h.len.symm
  have hln := h.len
  have g1 := fun j (hj : j < 3) => Seat.row_get hs l hlh i j hi hj
  refine ⟨?_, ?_, h.row.free _⟩
  · have := h.row.cell (i * 3 + 0) (by omega); rw [g1 0 (by decide)] at this; exact this
  · have := h.row.cell (i * 3 + 1) (by omega); rw [g1 1 (by decide)] at this; exact this
/-- A cell of an array of orders. -/
theorem Free.cell {w : World} {B c b o : Nat} (h : Free w B (some ⟨b, o, none⟩) c) (k : Nat) (hk : k < c * 6) : ∃ n : Int, w.cell? ⟨b, o + k, none⟩ = some (.int .i64 n) ∧ w.frozen? ⟨b, o + k, none⟩ = false := by
  rcases h with h | ⟨b', o', cur, h, _, h2, h3, h4⟩
  · cases h
  · injection h with h
    injection h with e1 e2
    subst e1; subst e2
    have hlt : o + k < cur.size := by omega
    obtain ⟨n, hn⟩ := h4 (o + k) cur[o + k] (Array.getElem?_eq_getElem hlt)
    refine ⟨n, ?_, ?_⟩
    · rw [cell_of_row w b (o + k) cur _ (0, 0) h2, Array.getElem?_eq_getElem hlt, hn]
    · simp [World.frozen?, h2]
def SayLoose (w : World) (e : Ending) (w' : World) : Prop := ∃ (A : Option Addr) (n c : Nat) (k : Int) (hs : List Seat.At) (l : List Seat), e = .returned (.tuple #[.slice A n c, .int .i64 k]) ∧ Loose w' w.heap.size (.slice A n c) n hs l ∧ n ≤ 8 ∧ Below w.heap.size w w'
def CloseLoose (w : World) (e : Ending) (w' : World) : Prop := ∃ (A : Option Addr) (n c : Nat) (B : Option Addr) (m d : Nat) (k : Int) (hs : List Seat.At) (l : List Seat), e = .returned (.tuple #[.slice A n c, .slice B m d, .int .i64 k]) ∧ Loose w' w.heap.size (.slice A n c) n hs l ∧ Free w' w.heap.size B d ∧ m ≤ d ∧ m ≤ 100 ∧ (B = none → m = 0) ∧ n ≤ 8 ∧ Below w.heap.size w w'
theorem say_loose (A : Option Addr) (n c : Nat) (hs : List Seat.At) (l : List Seat) (o : Ord) (w : World) (hl : Seats w A n c hs l) : Calls Try.prog 31 #[.slice A n c, .agg o.cells.toArray] w (SayLoose w) := by
  by_cases h1 : Seat.chk l = 0
  · obtain ⟨_, g8, _, _, gw, _⟩ := Seat.good h1
    have hln := hl.len
    refine (say_any A n c hs l o w hl gw (by omega)).mono ?_
    rintro e w' (⟨_, he, hb⟩ | ⟨_, A', c', h', he, hm, hb⟩)
    · exact ⟨none, 0, 0, _, [], [], he, Loose.empty _ _, by omega, hb⟩
    · exact ⟨A', n, c', 0, h', _, he, hm.loose, by omega, hb⟩
  · refine (say_bad A n c hs l o w hl h1).mono ?_
    rintro e w' ⟨he, hb⟩
    exact ⟨none, 0, 0, _, [], [], he, Loose.empty _ _, by omega, hb⟩
theorem close_loose (A : Option Addr) (n c : Nat) (hs : List Seat.At) (l : List Seat) (most : Int) (w : World) (hl : Seats w A n c hs l) : Calls Try.prog 26 #[.slice A n c, .int .i64 most] w (CloseLoose w) := by
  by_cases h1 : Seat.chk l = 0
  · by_cases hm : most < 1 ∨ 100 < most
    · refine (sclose_arg A n c hs l most w hl h1 hm).mono ?_
      rintro e w' ⟨he, hb⟩
      exact ⟨none, 0, 0, none, 0, 0, _, [], [], he, Loose.empty _ _, .inl rfl, by omega, by omega, (fun _ => rfl), by omega, hb⟩
    · obtain ⟨mm, rfl⟩ := Int.eq_ofNat_of_zero_le (show 0 ≤ most by omega)
      obtain ⟨g1, g8, gby, glate, gw, _⟩ := Seat.good h1
      have hln := hl.len
      refine (sclose_any A n c hs l mm w hl h1 (by omega) (by omega) gby (by omega) (by omega) glate).mono ?_
      rintro e w' ⟨A', c', h', l', B, d, out, he, hc, hmine, hown, hb⟩
      have hle := hc.le
      obtain ⟨A2, c2, e2, hcap, _, _, _, hnn⟩ := hown.shape
      injection e2 with e1 _ e2
      subst e1; subst e2
      exact ⟨A', n, c', B, out.length, d, 0, h', l', he, hmine.loose, Free.of_own hown, hcap, by omega, (fun h => by have := hnn h; injection this), by omega, hb⟩
  · refine (sclose_bad A n c hs l most w hl h1).mono ?_
    rintro e w' ⟨he, hb⟩
    exact ⟨none, 0, 0, none, 0, 0, _, [], [], he, Loose.empty _ _, .inl rfl, by omega, by omega, (fun _ => rfl), by omega, hb⟩
theorem leave_loose (A : Option Addr) (n c : Nat) (hs : List Seat.At) (l : List Seat) (w : World) (hl : Seats w A n c hs l) : Calls Try.prog 32 #[.slice A n c, .int .i64 0] w (SayLoose w) := by
  by_cases h1 : Seat.chk l = 0
  · obtain ⟨g1, g8, _⟩ := Seat.good h1
    have hln := hl.len
    obtain ⟨s, hs0⟩ : ∃ s, l[0]? = some s := ⟨_, List.getElem?_eq_getElem (by omega)⟩
    cases hg : s.gone with
    | true =>
      refine (leave_gone A n c hs l w hl h1 0 s hs0 hg).mono ?_
      rintro e w' ⟨he, hb⟩
      exact ⟨none, 0, 0, _, [], [], he, Loose.empty _ _, by omega, hb⟩
    | false =>
      refine (leave_ok A n c hs l w hl h1 0 s hs0 hg (by omega)).mono ?_
      rintro e w' ⟨A', c', h', he, hm, hb⟩
      exact ⟨A', n, c', 0, h', _, he, hm.loose, by omega, hb⟩
  · refine (leave_bad A n c hs l 0 w hl h1).mono ?_
    rintro e w' ⟨he, hb⟩
    exact ⟨none, 0, 0, _, [], [], he, Loose.empty _ _, by omega, hb⟩
end Go.Proofs.Ytmooknaljkeaaaa
