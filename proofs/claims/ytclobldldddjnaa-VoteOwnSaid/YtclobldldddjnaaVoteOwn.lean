/-
  VoteOwn: votes that are handed in stay as they were, and what is told shares nothing with them.
-/
import Derived.Test.YtclobldldddjnaaVoteO
import Derived.Test.YtclobldldddjnaaVoteL
set_option linter.unusedVariables false
namespace Go.Proofs.Ytclobldldddjnaa.Vote.Own
open Go.RowKit Go.Proofs.Ytclobldldddjnaa Go.Proofs.Ytclobldldddjnaa.Bv Go.Proofs.Ytclobldldddjnaa.Vote

/-- A slice of which every cell may be added to. -/
def AllU (B : Nat) (w : World) (v : Value) : Prop :=
  v = .slice none 0 0 ∨ ∃ r n c, v = .slice (some ⟨r, 0, none⟩) n c ∧ n ≤ c ∧ c ≤ maxLen ∧ B ≤ r ∧ ∀ j, j < c → (∃ x, w.cell? ⟨r, j, none⟩ = some (.int .u32 x)) ∧ w.frozen? ⟨r, j, none⟩ = false
theorem AllU.mono {B B' : Nat} {w : World} {v : Value} (h : AllU B w v) (hb : B' ≤ B) : AllU B' w v := by
  rcases h with h | ⟨r, n, c, a, b, d, e, f⟩
  · exact .inl h
  · exact .inr ⟨r, n, c, a, b, d, by omega, f⟩
theorem AllU.later {B : Nat} {w w' : World} {v : Value} (h : AllU B w v) (hb : Below w.heap.size w w') : AllU B w' v := by
  rcases h with h | ⟨r, n, c, a, b, d, e, f⟩
  · exact .inl h
  · refine .inr ⟨r, n, c, a, b, d, e, fun j hj => ?_⟩
    obtain ⟨⟨x, h1⟩, h2⟩ := f j hj
    refine ⟨⟨x, cell_later hb h1⟩, ?_⟩
    rw [hb.frozen (World.block_lt_of_cell? w _ h1)]; exact h2
theorem AllU.drew {B : Nat} {w : World} {v : Value} (h : AllU B w v) : AllU B w.drew v := h
theorem AllU.set {B : Nat} {w : World} {v : Value} (h : AllU B w v) (a : Addr) (y : Int) (ha : ∃ x, w.cell? a = some (.int .u32 x)) : AllU B (w.setCell a (.int .u32 y)) v := by
  rcases h with h | ⟨r, n, c, e1, b, d, e, f⟩
  · exact .inl h
  · refine .inr ⟨r, n, c, e1, b, d, e, fun j hj => ?_⟩
    obtain ⟨⟨x, h1⟩, h2⟩ := f j hj
    refine ⟨?_, by simpa using h2⟩
    obtain ⟨z, hz⟩ := ha
    by_cases hq : (⟨r, j, none⟩ : Addr) = a
    · subst hq
      exact ⟨y, World.cell?_setCell_same w ⟨r, j, none⟩ (.int .u32 y) h1⟩
    · exact ⟨x, by rw [World.cell?_setCell_other _ _ _ _ (fun e => hq e.symm)]; exact h1⟩
theorem AllU.of_row {w : World} {base r n c : Nat} {xs : List Value} (h : RowU w base (.slice (some ⟨r, 0, none⟩) n c) n xs) : AllU base w (.slice (some ⟨r, 0, none⟩) n c) := by
  obtain ⟨A, c', hv, h1, h2, _, h3, _⟩ := Go.Proofs.Ytclobldldddjnaa.Own.shape h
  injection hv with hA _ hc
  subst hc
  refine .inr ⟨r, n, c, rfl, h1, h2, (h3 _ hA.symm).1, fun j hj => ⟨?_, h.frozenAt j⟩⟩
  obtain ⟨u, hu, x, hx⟩ := Go.Proofs.Ytclobldldddjnaa.Own.some_ h j (by omega)
  exact ⟨x, by rw [hu, hx]⟩
def CastW (w : World) (e : Ending) (w' : World) : Prop :=
  ∃ (m : Int) (A : Option Addr) (n c : Nat) (b : Bool) (k : Int), e = .returned (.tuple #[.agg #[.int .u32 m, .slice A n c], .bool b, .int .i64 k]) ∧ Below w.heap.size w w' ∧ AllU w.heap.size w' (.slice A n c)
def BackW (w : World) (e : Ending) (w' : World) : Prop :=
  ∃ (m : Int) (A : Option Addr) (n c : Nat) (k : Int), e = .returned (.tuple #[.agg #[.int .u32 m, .slice A n c], .int .i64 k]) ∧ Below w.heap.size w w' ∧ AllU w.heap.size w' (.slice A n c)
theorem cast_w {w : World} {m : Nat} (hm : m < 4294967296) {A : Option Addr} {n c : Nat} {l : List Nat} (h : VRow w A n c l) (a b : Int) (w1 : World) (hb : Below w.heap.size w w1) :
    Calls Try.prog 26 #[.agg #[.int .u32 (m : Int), .slice A n c], .int .i64 a, .int .i64 b] w1 (CastW w1) := by
  rcases cast_cases hm h a b with ⟨k, hk, hcast⟩ | ⟨p, q, g, o, rfl, rfl, rfl, rfl, hst, hcan, hpq, hbit⟩
  · exact (hcast w1 hb).mono fun e w' ⟨he, h⟩ => ⟨_, _, _, _, _, _, he, h, .inl rfl⟩
  · have hl : (l.take 16).length = 16 := hcan.len
    refine (cast_good m hm (l.take 16) hl g o c p q hcan.p16 hcan.q16 w1 (hst.later hb) hcan.check hcan.by_ hcan.at_ hpq ?_).mono ?_
    · have := hcan.q16
      rw [List.getD_eq_getElem?_getD, List.getElem?_eq_getElem (by omega)] at hbit
      exact hbit
    · rintro e w' ⟨r, c', he, h, hr⟩
      exact ⟨_, _, _, _, _, _, he, h, AllU.of_row hr⟩
theorem back_w {w : World} {m : Nat} (hm : m < 4294967296) {A : Option Addr} {n c : Nat} {l : List Nat} (h : VRow w A n c l) (a b : Int) (w1 : World) (hb : Below w.heap.size w w1) :
    Calls Try.prog 29 #[.agg #[.int .u32 (m : Int), .slice A n c], .int .i64 a, .int .i64 b] w1 (BackW w1) := by
  rcases back_cases hm h a b with ⟨k, hk, _, _, hback⟩ | ⟨p, q, g, o, rfl, rfl, rfl, rfl, hst, hcan, hbit⟩
  · exact (hback w1 hb).mono fun e w' ⟨he, h⟩ => ⟨_, _, _, _, _, he, h, .inl rfl⟩
  · have hl : (l.take 16).length = 16 := hcan.len
    refine (back_yea m hm (l.take 16) hl g o c p q hcan.p16 hcan.q16 w1 (hst.later hb) hcan.check hcan.by_ hcan.at_ ?_).mono ?_
    · have := hcan.q16
      rw [List.getD_eq_getElem?_getD, List.getElem?_eq_getElem (by omega)] at hbit
      exact hbit
    · rintro e w' ⟨r, c', he, h, hr⟩
      exact ⟨_, _, _, _, _, he, h, AllU.of_row hr⟩
theorem VRow.rd {w : World} {A : Option Addr} {n c : Nat} {l : List Nat} (h : VRow w A n c l) : Rd w 1 A n (cellsU (l.take n)) := by
  have hl := h.len
  have hle := h.le
  refine ⟨by rw [cellsU_len, List.length_take]; omega, fun h0 => ?_⟩
  obtain ⟨b, o, e, hs⟩ := h.at_ (by omega)
  refine ⟨b, o, e, fun j u hu => ?_⟩
  have hj : j < (l.take n).length := by have := (List.getElem?_eq_some_iff.1 hu).1; rwa [cellsU_len] at this
  rw [cellsU_get _ j hj] at hu
  have hj2 : j < l.length := by rw [List.length_take] at hj; omega
  rw [(hs j hj2).1, ← hu, List.getElem_take]
def CloneW (w : World) (n : Nat) (xs : List Value) (e : Ending) (w' : World) : Prop :=
  ∃ B c, e = .returned (.slice B n c) ∧ Rd w' 1 B n xs ∧ Below w.heap.size w w'
theorem clone_w {w : World} {A : Option Addr} {n c : Nat} {l : List Nat} (h : VRow w A n c l) : Calls Try.prog 31 #[.slice A n c] w (CloneW w n (cellsU (l.take n))) := by
  have hrd := VRow.rd h
  have hle := h.le
  have hre := h.reach
  have hno := h.none_
  obtain ⟨i0, hi, hz0, hz1, hz2⟩ := info_parts infoU32
  cases A with
  | none =>
    have h0 := hno rfl
    have hn : n = 0 := by omega
    subst hn
    refine (Try.slices_Clone_nil 0 c w).mono ?_
    rintro e w' ⟨rfl, rfl⟩
    exact ⟨none, 0, rfl, hrd, Below.refl _ _⟩
  | some a =>
    refine (clone_all Try.laysSlE041_f31 i0 (.int .u32 0) 1 4 hi hz0 hz1 hz2 rfl (by decide) (by intro w; rfl) GU (fun j u hu => by match j, hu with | 0, hu => exact ⟨0, (Option.some.inj hu).symm⟩) a n c (cellsU (l.take n)) w (by unfold maxLen; omega) (by omega) hrd ?_ ?_).mono ?_
    · intro u hu
      unfold cellsU at hu
      obtain ⟨x, _, rfl⟩ := List.mem_map.1 hu
      rfl
    · intro j u hu
      have hu := List.mem_of_getElem? hu
      unfold cellsU at hu
      obtain ⟨x, _, rfl⟩ := List.mem_map.1 hu
      exact ⟨_, rfl⟩
    · rintro e w' ⟨v, rfl, hown, _, hb⟩
      obtain ⟨B, c', rfl, _, _, hr, _⟩ := Go.Proofs.Ytclobldldddjnaa.Own.shape hown
      exact ⟨B, c', rfl, hr, hb⟩
theorem equal_empty (A B : Option Addr) (c d : Nat) (w : World) : Calls Try.prog 32 #[.slice A 0 c, .slice B 0 d] w fun e w' => e = .returned (.bool true) ∧ ∃ q, w' = w.drewN q := by
  go_enter Try.func32, Try.ntmps32
  go_wp2_with fail
  refine wp_loop_rounds 1 ?_
  rw [rounds_succ]
  go_wp2_with fail
  go_ret
  exact ⟨rfl, 0, rfl⟩
theorem equal_w {w : World} {A B : Option Addr} {n c d : Nat} {l : List Nat} (hn : n ≤ 9223372036854775807) (h1 : Rd w 1 A n (cellsU l)) (h2 : Rd w 1 B n (cellsU l)) (hlt : ∀ x ∈ l, x < 4294967296) :
    Calls Try.prog 32 #[.slice A n c, .slice B n d] w fun e w' => e = .returned (.bool true) ∧ ∃ q, w' = w.drewN q := by
  by_cases h0 : 0 < n
  · obtain ⟨b1, o1, rfl, hc1⟩ := h1.2 h0
    obtain ⟨b2, o2, rfl, hc2⟩ := h2.2 h0
    have hl : l.length = n := by have := h1.1; rw [cellsU_len] at this; omega
    exact equal_same l b1 o1 c b2 o2 d n hl hn w (fun k hk => ⟨hc1 k _ (cellsU_get l k hk), hlt _ (List.getElem_mem hk)⟩) (fun k hk => ⟨hc2 k _ (cellsU_get l k hk), hlt _ (List.getElem_mem hk)⟩)
  · obtain rfl : n = 0 := by omega
    exact equal_empty A B c d w
theorem AllU.parts {B : Nat} {w : World} {A : Option Addr} {n c : Nat} (h : AllU B w (.slice A n c)) :
    n ≤ c ∧ c ≤ 9223372036854775807 ∧ ∀ j, j < c → ∃ (r : Nat) (x : Int), A = some ⟨r, 0, none⟩ ∧ B ≤ r ∧ w.cell? ⟨r, j, none⟩ = some (.int .u32 x) ∧ w.frozen? ⟨r, j, none⟩ = false := by
  rcases h with h | ⟨r, n', c', e1, b, d, e, f⟩
  · injection h with h1 h2 h3
    subst h2; subst h3
    exact ⟨Nat.le_refl _, by decide, fun j hj => absurd hj (by omega)⟩
  · injection e1 with h1 h2 h3
    subst h2; subst h3
    refine ⟨b, by unfold maxLen at d; omega, fun j hj => ?_⟩
    obtain ⟨⟨x, hx⟩, hf⟩ := f j hj
    exact ⟨r, x, h1, e, hx, hf⟩
/-- What is spoilt lies above. -/
def Spoil (w1 : World) (va vb : Value) (wr : World) : Prop := Below w1.heap.size w1 wr ∧ AllU w1.heap.size wr va ∧ AllU w1.heap.size wr vb
theorem Spoil.set {w1 wr : World} {va vb : Value} (h : Spoil w1 va vb wr) {r j : Nat} {x y : Int} (hr : w1.heap.size ≤ r) (hx : wr.cell? ⟨r, j, none⟩ = some (.int .u32 x)) : Spoil w1 va vb (wr.setCell ⟨r, j, none⟩ (.int .u32 y)) :=
  ⟨h.1.setCell (p := ⟨r, j, none⟩) hr _, h.2.1.set _ _ ⟨x, hx⟩, h.2.2.set _ _ ⟨x, hx⟩⟩

set_option maxRecDepth 100000 in
set_option maxHeartbeats 2000000 in
theorem voteOwn_any (c0 : Array Value) (a1 : Int) (a2 : Int) (w : World) (h0 : (.cons (.int .u32) (.cons (.slice (.int .u32) 4) .nil) : Sh).Ok w c0.toList) (w1 : (Lit.int .i64 a1).wf = true) (w2 : (Lit.int .i64 a2).wf = true) :
    Calls Try.prog 12 #[.agg c0, .int .i64 a1, .int .i64 a2] w fun e w' => e = .returned (.bool true) ∧ Below w.heap.size w w' := by
  obtain ⟨m, A, n, c, l, rfl, hm, hv⟩ := votes_open h0
  clear w1 w2 h0
  have hb0 : Below w.heap.size w (w.alloc (.cells #[.int .u32 (m : Int), .slice A n c] 46)) := (Below.refl w.heap.size w).alloc (Nat.le_refl _) _
  have hA := Blk.new w [.int .u32 (m : Int), .slice A n c] 46 (0, 0)
  have hlt : ∀ x ∈ l.take n, x < 4294967296 := by
    intro x hx
    obtain ⟨j, hj, rfl⟩ := List.mem_iff_getElem.1 hx
    have hj2 : j < l.length := by rw [List.length_take] at hj; omega
    obtain ⟨b, o, _, hs⟩ := hv.at_ (by have := hv.len; omega)
    rw [List.getElem_take]
    exact (hs j hj2).2
  have hn63 : n ≤ 9223372036854775807 := by have := hv.le; have := hv.reach; omega
  have hcl := clone_w (hv.later hb0)
  have hrd0 := VRow.rd hv
  generalize hL : l.take n = L at *
  clear hL
  go_enter Try.func12, Try.ntmps12
  go_wp2_with fail
  refine hcl.mono ?_
  rintro e w1 ⟨B, cB, rfl, hrd, hb1⟩
  have hA1 := hA.later hb1
  have hb2 := hb0.trans (hb1.mono hb0.size)
  have y1 : w1.cell? ⟨w.heap.size, 0, none⟩ = some (.int .u32 (m : Int)) := hA1.cell 0
  have y2 : w1.cell? ⟨w.heap.size, 1, none⟩ = some (.slice A n c) := hA1.cell 1
  clear hcl hb1 hA
  go_wp2_with fail
  refine (cast_w hm hv a1 a2 w1 hb2).mono ?_
  rintro e w3 ⟨m3, Aa, na, ca, b3, k3, rfl, hb3, hva⟩
  have hbA := hb3.alloc hb3.size (.cells #[.int .u32 m3, .slice Aa na ca] 46)
  have hva4 := hva.later ((Below.refl w3.heap.size w3).alloc (Nat.le_refl _) (.cells #[.int .u32 m3, .slice Aa na ca] 46))
  have hQ := Blk.new w3 [.int .u32 m3, .slice Aa na ca] 46 (0, 0)
  have hA4 := hA1.later hbA
  have hb4 := hb2.trans (hbA.mono hb2.size)
  have y1 : (w3.alloc (.cells #[.int .u32 m3, .slice Aa na ca] 46)).cell? ⟨w.heap.size, 0, none⟩ = some (.int .u32 (m : Int)) := hA4.cell 0
  have y2 : (w3.alloc (.cells #[.int .u32 m3, .slice Aa na ca] 46)).cell? ⟨w.heap.size, 1, none⟩ = some (.slice A n c) := hA4.cell 1
  have hw1 : w1.heap.size ≤ w3.heap.size := hb3.size
  clear hb3 hva
  go_wp2_with fail
  generalize w3.alloc (.cells #[.int .u32 m3, .slice Aa na ca] 46) = W4 at *
  generalize hQb : w3.heap.size = Qb at *
  clear hQb
  refine (back_w hm hv a1 a2 W4 hb4).mono ?_
  rintro e w5 ⟨m5, Ab, nb, cb, k5, rfl, hb5, hvb⟩
  have hbB := hb5.alloc hb5.size (.cells #[.int .u32 m5, .slice Ab nb cb] 46)
  have hN := ((Below.refl w5.heap.size w5).alloc (Nat.le_refl _) (.cells #[.int .u32 m5, .slice Ab nb cb] 46))
  have hvb6 := (hvb.later hN).mono hbA.size
  have hva6 := (hva4.later hb5).later hN
  have hQ6 := (hQ.later hb5).later hN
  have hR := Blk.new w5 [.int .u32 m5, .slice Ab nb cb] 46 (0, 0)
  have hA6 := hA4.later hbB
  have hb6 := hb4.trans (hbB.mono hb4.size)
  have hbC := hbA.trans (hbB.mono hbA.size)
  have y1 : (w5.alloc (.cells #[.int .u32 m5, .slice Ab nb cb] 46)).cell? ⟨w.heap.size, 0, none⟩ = some (.int .u32 (m : Int)) := hA6.cell 0
  have y2 : (w5.alloc (.cells #[.int .u32 m5, .slice Ab nb cb] 46)).cell? ⟨w.heap.size, 1, none⟩ = some (.slice A n c) := hA6.cell 1
  have y3 : (w5.alloc (.cells #[.int .u32 m5, .slice Ab nb cb] 46)).cell? ⟨Qb, 1, none⟩ = some (.slice Aa na ca) := hQ6.cell 1
  have y4 : (w5.alloc (.cells #[.int .u32 m5, .slice Ab nb cb] 46)).cell? ⟨w5.heap.size, 1, none⟩ = some (.slice Ab nb cb) := hR.cell 1
  clear hb5 hvb hbB hbA hva4 hQ hA4
  go_wp2_with fail
  generalize w5.alloc (.cells #[.int .u32 m5, .slice Ab nb cb] 46) = W6 at *
  generalize hRb : w5.heap.size = Rb at *
  clear hRb
  refine (equal_w hn63 (hrd0.later hb6) (hrd.later hbC) hlt).mono ?_
  rintro e w7 ⟨rfl, q7, rfl⟩
  have y3 : (W6.drewN q7).cell? ⟨Qb, 1, none⟩ = some (.slice Aa na ca) := hQ6.cell 1
  have y4 : (W6.drewN q7).cell? ⟨Rb, 1, none⟩ = some (.slice Ab nb cb) := hR.cell 1
  go_wp2_with fail
  have ix0 : ∀ w, (Instr.index 61 (.agg #[.slice Aa na ca, .slice Ab nb cb]) (.int .i64 0)).run Try.prog w = .ok (.slice Aa na ca) w := fun _ => by kernel_rfl
  have ix1 : ∀ w, (Instr.index 61 (.agg #[.slice Aa na ca, .slice Ab nb cb]) (.int .i64 1)).run Try.prog w = .ok (.slice Ab nb cb) w := fun _ => by kernel_rfl
  have hS : Spoil w1 (.slice Aa na ca) (.slice Ab nb cb) (W6.drewN q7) := ⟨below_drewN hbC q7, hva6, hvb6⟩
  clear hva6 hvb6 hQ6 hA6 hb6 hbC y1 y2 y3 y4 hR hN
  go_loopw [44] (fun i wr => (i = .int .i64 0 ∨ i = .int .i64 1 ∨ i = .int .i64 2) ∧ Spoil w1 (.slice Aa na ca) (.slice Ab nb cb) wr) (fun i _ => 2 - (intOf i).toNat)
  case atStart => exact ⟨.inl rfl, hS⟩
  case round =>
    clear hS
    obtain ⟨hi, hS⟩ := hrel
    rcases hi with rfl | rfl | rfl
    ·
      have hp := AllU.parts hS.2.1
      have hle := hp.1
      have hc63 := hp.2.1
      clear hp
      go_wp2_with fail
      go_loopw [53] (fun i wr => ∃ j : Nat, j ≤ ca ∧ i = .int .i64 (j : Int) ∧ Spoil w1 (.slice Aa na ca) (.slice Ab nb cb) wr) (fun i _ => ca - (intOf i).toNat)
      case atStart => exact ⟨0, Nat.zero_le _, rfl, hS⟩
      case round =>
        clear hS
        obtain ⟨j, hj, rfl, hS⟩ := hrel
        by_cases hlj : j < ca
        · obtain ⟨r, x, hAr, hr, hx, hf⟩ := (AllU.parts hS.2.1).2.2 j hlj
          subst hAr
          go_wp2_with fail
          go_roundw
          case rel => exact ⟨j + 1, by omega, by go_num, hS.set hr hx⟩
          case measure => simp [intOf]; omega
        · obtain rfl : j = ca := by omega
          go_wp2_with fail
          go_roundw
          case rel => exact ⟨.inr (.inl rfl), hS⟩
          case measure => simp [intOf]
    ·
      have hp := AllU.parts hS.2.2
      have hle := hp.1
      have hc63 := hp.2.1
      clear hp
      go_wp2_with fail
      go_loopw [53] (fun i wr => ∃ j : Nat, j ≤ cb ∧ i = .int .i64 (j : Int) ∧ Spoil w1 (.slice Aa na ca) (.slice Ab nb cb) wr) (fun i _ => cb - (intOf i).toNat)
      case atStart => exact ⟨0, Nat.zero_le _, rfl, hS⟩
      case round =>
        clear hS
        obtain ⟨j, hj, rfl, hS⟩ := hrel
        by_cases hlj : j < cb
        · obtain ⟨r, x, hAr, hr, hx, hf⟩ := (AllU.parts hS.2.2).2.2 j hlj
          subst hAr
          go_wp2_with fail
          go_roundw
          case rel => exact ⟨j + 1, by omega, by go_num, hS.set hr hx⟩
          case measure => simp [intOf]; omega
        · obtain rfl : j = cb := by omega
          go_wp2_with fail
          go_roundw
          case rel => exact ⟨.inr (.inr rfl), hS⟩
          case measure => simp [intOf]
    · go_wp2_with fail
      refine (lives_any _).mono ?_
      rintro e w8 ⟨rfl, hb8⟩
      have hbE : Below w1.heap.size w1 w8 := hS.1.trans (hb8.mono hS.1.size)
      have hbF : Below w.heap.size w w8 := hb2.trans (hbE.mono hb2.size)
      have hA8 := hA1.later hbE
      have y2 : w8.cell? ⟨w.heap.size, 1, none⟩ = some (.slice A n c) := hA8.cell 1
      go_wp2_with fail
      refine (equal_w hn63 (hrd0.later hbF) (hrd.later hbE) hlt).mono ?_
      rintro e w9 ⟨rfl, q9, rfl⟩
      go_wp2_with fail
      go_ret
      exact ⟨rfl, below_drewN hbF q9⟩
end Go.Proofs.Ytclobldldddjnaa.Vote.Own
