/-
  VoteFew: as long as fewer than Most tells have been against one, it stays; some member stays always; and all is right.
-/
import Derived.Test.YtclobldldddjnaaVoteR
set_option linter.unusedVariables false
namespace Go.Proofs.Ytclobldldddjnaa.Vote
open Go.RowKit Go.Proofs.Ytclobldldddjnaa Go.Proofs.Ytclobldldddjnaa.Bv

/-- What holds after some votes. -/
structure Few (m0 m : Nat) (l E : List Nat) (least : Nat) : Prop where
  check : check m l = 0
  len : l.length = 16
  lt : ∀ k, l.getD k 0 < 4294967296
  sub : Part m m0
  lenE : E.length = 16
  ltE : ∀ k, E.getD k 0 < 4294967296
  ever : ∀ k, Part (l.getD k 0) (E.getD k 0)
  least_le : least ≤ 32
  gone : ∀ j, m0.testBit j = true → m.testBit j = false → least < 2 * size (E.getD j 0)
theorem Few.step {m0 m : Nat} {l E : List Nat} {least : Nat} (h : Few m0 m l E least) {p q : Nat} (hc : Can m l p q) (hpq : p ≠ q) :
    Few m0 (purge 16 m (l.set q (l.getD q 0 ||| 2 ^ p))).1 (purge 16 m (l.set q (l.getD q 0 ||| 2 ^ p))).2 (E.set q (E.getD q 0 ||| 2 ^ p)) (min least (size (purge 16 m (l.set q (l.getD q 0 ||| 2 ^ p))).1)) := by
  have hp := cast_purged h.len h.lt h.check hc.by_ hc.at_ hpq
  have hset := set_get l q (l.getD q 0 ||| 2 ^ p)
  have hq : q < l.length := by rw [h.len]; exact hc.q16
  have hqE : q < E.length := by rw [h.lenE]; exact hc.q16
  have hever : ∀ k, Part ((l.set q (l.getD q 0 ||| 2 ^ p)).getD k 0) ((E.set q (E.getD q 0 ||| 2 ^ p)).getD k 0) := by
    intro k
    rw [set_get _ _ _ _ hq, set_get _ _ _ _ hqE]
    split
    · intro i hi
      rw [Nat.testBit_or] at hi ⊢
      simp only [Bool.or_eq_true] at hi ⊢
      rcases hi with hi | hi
      · exact .inl (h.ever q i hi)
      · exact .inr hi
    · exact h.ever k
  have hmore : ∀ k, Part (E.getD k 0) ((E.set q (E.getD q 0 ||| 2 ^ p)).getD k 0) := by
    intro k
    rw [set_get _ _ _ _ hqE]
    split
    · rename_i e; subst e
      intro i hi
      rw [Nat.testBit_or, hi]; rfl
    · exact .refl _
  generalize l.set q (l.getD q 0 ||| 2 ^ p) = l0 at *
  generalize purge 16 m l0 = r at *
  refine ⟨hp.check, hp.good.len, hp.good.lt, hp.sub.trans h.sub, by rw [List.length_set]; exact h.lenE, fun k => ?_, fun k => (hp.subs k).trans (hever k), Nat.le_trans (Nat.min_le_left _ _) h.least_le, fun j h1 h2 => ?_⟩
  · rw [set_get _ _ _ _ hqE]; split
    · exact lt_or (h.ltE q) (one_lt (by have := hc.p16; omega))
    · exact h.ltE k
  · cases hm : m.testBit j with
    | false =>
      have h3 := h.gone j h1 hm
      have h4 := (hmore j).size
      omega
    | true =>
      have h3 := hp.gone j hm h2
      have h4 := (hever j).size
      omega
theorem z16_get (k : Nat) : z16.getD k 0 = 0 := by
  by_cases h : k < 16
  · have : ∀ k : Fin 16, z16.getD k.val 0 = 0 := by decide
    exact this ⟨k, h⟩
  · exact getD_big _ _ (by rw [show z16.length = 16 from rfl]; omega)
theorem Few.start {m : Nat} (h : Vote.check m z16 = 0) : Few m m z16 z16 (size m) :=
  ⟨h, rfl, fun k => by rw [z16_get]; decide, .refl _, rfl, fun k => by rw [z16_get]; decide, fun k => .refl _, cnt_le 32 m, fun j h1 h2 => by rw [h1] at h2; cases h2⟩
/-- Pairs of numbers that came in. -/
theorem pairs_open {w : World} {A : Option Addr} {n c : Nat} (h : (.slice (.cons (.int .i64) (.cons (.int .i64) .nil)) 16 : Sh).Ok w [.slice A n c]) :
    n ≤ c ∧ n ≤ 9223372036854775807 ∧ ∀ i, i < n → ∃ (b o : Nat) (x y : Int), A = some ⟨b, o, none⟩ ∧ w.cell? ⟨b, o + i * 2, none⟩ = some (.int .i64 x) ∧ w.cell? ⟨b, o + i * 2 + 1, none⟩ = some (.int .i64 y) ∧ (Lit.int .i64 x).wf = true ∧ (Lit.int .i64 y).wf = true := by
  rcases h with h | ⟨a, len, cap, h, hl, hm, hr, hi⟩
  · simp at h
    obtain ⟨rfl, rfl, rfl⟩ := h
    exact ⟨Nat.le_refl _, by decide, fun i hi => absurd hi (by omega)⟩
  · simp at h
    obtain ⟨rfl, rfl, rfl⟩ := h
    refine ⟨hl, by unfold maxLen at hm; omega, fun i hin => ?_⟩
    obtain ⟨es, hes, hc, xs, ys, rfl, h1, h2, ⟨x, rfl, wx⟩, xs2, ys2, rfl, h3, h4, ⟨y, rfl, wy⟩, h5⟩ := hi i (by omega)
    rw [show ys2 = [] from h5] at hc
    have c0 := hc 0 _ rfl
    have c1 := hc 1 _ rfl
    obtain ⟨b, off, spot⟩ := a
    have hspot : spot = none := by
      obtain ⟨es, hes, hc, xs, ys, rfl, h1, h2, ⟨x, rfl, wx⟩, _⟩ := hi 0 (by omega)
      have := World.cell?_spot (hc 0 _ rfl)
      simpa [Addr.add] using this
    subst hspot
    refine ⟨b, off, x, y, rfl, ?_, ?_, wx, wy⟩
    · rw [addAt] at c0; simpa [Sh.size] using c0
    · rw [addAt] at c1; simpa [Sh.size, Nat.add_assoc] using c1
theorem own_ne {w : World} {base e : Nat} {n c r : Nat} {xs : List Value} (h : w.ownsRow base e 1 (.slice (some ⟨r, 0, none⟩) n c) n xs) {g : Nat} {cur : List Value} {e' : TypeId} {fr : Nat × Nat} (hB : Blk w g cur e' fr) (hne : e ≠ e') : r ≠ g := by
  rintro rfl
  rcases h.2 with ⟨h1, _⟩ | ⟨g, cap, cur', hv, _, hh, _⟩
  · cases h1
  · have e1 : g = r := by injection hv with hv; injection hv with hv; injection hv with hv; exact hv.symm
    subst e1
    unfold Blk at hB
    rw [hh] at hB
    injection hB with hB
    injection hB with _ ht
    exact hne ht
theorem memb_test (m q : Nat) (hq : q < 16) : memb m (q : Int) = m.testBit q := by
  have h1 : decide ((0 : Int) ≤ (q : Int)) = true := decide_eq_true (by omega)
  have h2 : decide ((q : Int) < 16) = true := decide_eq_true (by omega)
  unfold memb
  rw [h1, h2]
  rfl
set_option maxRecDepth 100000 in
set_option maxHeartbeats 2000000 in
theorem voteFew_any (a0 : Int) (a1 : Option Addr) (len1 cap1 : Nat) (w : World) (w0 : (Lit.int .u32 a0).wf = true) (h1 : (.slice (.cons (.int .i64) (.cons (.int .i64) .nil)) 16 : Sh).Ok w [.slice a1 len1 cap1]) :
    Calls Try.prog 9 #[.int .u32 a0, .slice a1 len1 cap1] w fun e w' => e = .returned (.bool true) ∧ Below w.heap.size w w' := by
  simp [Lit.wf, IntKind.min, IntKind.max, IntKind.signed, IntKind.bits] at w0
  obtain ⟨m, rfl⟩ := Int.eq_ofNat_of_zero_le w0.1
  have hm : m < 4294967296 := by omega
  obtain ⟨hlc, hlm, hpairs⟩ := pairs_open h1
  clear w0 h1
  obtain ⟨i0, hi, hz0, hz1, hz2⟩ := info_parts infoU32
  go_enter Try.func9, Try.ntmps9
  go_wp2_with (at_make; refine wpList_make_full _ rfl _ _ 44 rfl w.heap.size 42 i0 (.int .u32 0) 1 Try.underlying44 hi hz0 hz1 .i64 .i64 _ _ 16 rfl rfl rfl rfl ?c1 ?c2 ?c3 ?_)
  case c1 => rw [hz2]; decide
  case c2 => decide
  case c3 => exact Nat.le_refl _
  intro w1 hown hgrow
  have hb := (Below.refl w.heap.size w).grown hgrow (Nat.le_refl _) (by intro k hk; cases hk)
  have hown : w1.ownsRow w.heap.size 42 1 (.slice (some ⟨w.heap.size, 0, none⟩) 16 16) 16 (cellsU z16) := by simpa [toList_madeCells_one, Value.cells, cellsU, z16] using hown
  have hV := Blk.new w1 [.int .u32 (m : Int), .slice (some ⟨w.heap.size, 0, none⟩) 16 16] 46 (0, 0)
  have hb1 := hb.alloc hb.size (.cells #[.int .u32 (m : Int), .slice (some ⟨w.heap.size, 0, none⟩) 16 16] 46)
  have hown1 := hown.alloc (.cells #[.int .u32 (m : Int), .slice (some ⟨w.heap.size, 0, none⟩) 16 16] 46)
  have hlow : w.heap.size ≤ w1.heap.size := hb.size
  clear hgrow hown
  go_wp2_with fail
  refine (lives_any _).mono ?_
  rintro e w2 ⟨rfl, hb2⟩
  replace hV := hV.later hb2
  replace hown := ownsRow_later hown1 hb2
  have hb3 := hb1.trans (hb2.mono hb1.size)
  have y1 : w2.cell? ⟨w1.heap.size, 0, none⟩ = some (.int .u32 (m : Int)) := hV.cell 0
  have y2 : w2.cell? ⟨w1.heap.size, 1, none⟩ = some (.slice (some ⟨w.heap.size, 0, none⟩) 16 16) := hV.cell 1
  clear hb2 hown1 hb1 hb
  go_wp2_with fail
  refine (check_any m hm z16 w.heap.size 0 16 w2 (sets_of hown rfl (by decide)) rfl).mono ?_
  rintro e w3 ⟨rfl, hb4⟩
  replace hV := hV.later hb4
  replace hown := ownsRow_later hown hb4
  have hb5 := hb3.trans (hb4.mono hb3.size)
  clear hb3 hb4 y1 y2
  by_cases hc : check m z16 = 0
  · rw [hc]
    by_cases hlen : 300 < len1
    · have hl1 : decide ((300 : Int) < (len1 : Int)) = true := decide_eq_true (by omega)
      have hl2 : decide (300 < len1) = true := decide_eq_true (by omega)
      clear hlen
      go_wp2_with fail
      refine (lives_any _).mono ?_
      rintro e w4 ⟨rfl, hb6⟩
      go_wp2_with fail
      go_ret
      exact ⟨rfl, hb5.trans (hb6.mono hb5.size)⟩
    · have hl1 : decide ((300 : Int) < (len1 : Int)) = false := decide_eq_false (by omega)
      have hl2 : decide (300 < len1) = false := decide_eq_false (by omega)
      have hF := Lib.hid (Few.start hc)
      clear hlen hc
      go_wp2_with fail
      have hE := Blk.new w3 (cellsU z16) 48 (0, 0)
      rw [show (cellsU z16).toArray = #[Value.int IntKind.u32 0, Value.int IntKind.u32 0, Value.int IntKind.u32 0, Value.int IntKind.u32 0, Value.int IntKind.u32 0, Value.int IntKind.u32 0, Value.int IntKind.u32 0, Value.int IntKind.u32 0, Value.int IntKind.u32 0, Value.int IntKind.u32 0, Value.int IntKind.u32 0, Value.int IntKind.u32 0, Value.int IntKind.u32 0, Value.int IntKind.u32 0, Value.int IntKind.u32 0, Value.int IntKind.u32 0] from rfl] at hE
      have hb6 := hb5.alloc hb5.size (.cells #[Value.int IntKind.u32 0, Value.int IntKind.u32 0, Value.int IntKind.u32 0, Value.int IntKind.u32 0, Value.int IntKind.u32 0, Value.int IntKind.u32 0, Value.int IntKind.u32 0, Value.int IntKind.u32 0, Value.int IntKind.u32 0, Value.int IntKind.u32 0, Value.int IntKind.u32 0, Value.int IntKind.u32 0, Value.int IntKind.u32 0, Value.int IntKind.u32 0, Value.int IntKind.u32 0, Value.int IntKind.u32 0] 48)
      have hV6 := hV.later ((Below.refl w3.heap.size w3).alloc (Nat.le_refl _) (.cells #[Value.int IntKind.u32 0, Value.int IntKind.u32 0, Value.int IntKind.u32 0, Value.int IntKind.u32 0, Value.int IntKind.u32 0, Value.int IntKind.u32 0, Value.int IntKind.u32 0, Value.int IntKind.u32 0, Value.int IntKind.u32 0, Value.int IntKind.u32 0, Value.int IntKind.u32 0, Value.int IntKind.u32 0, Value.int IntKind.u32 0, Value.int IntKind.u32 0, Value.int IntKind.u32 0, Value.int IntKind.u32 0] 48))
      have hown6 := hown.alloc (.cells #[Value.int IntKind.u32 0, Value.int IntKind.u32 0, Value.int IntKind.u32 0, Value.int IntKind.u32 0, Value.int IntKind.u32 0, Value.int IntKind.u32 0, Value.int IntKind.u32 0, Value.int IntKind.u32 0, Value.int IntKind.u32 0, Value.int IntKind.u32 0, Value.int IntKind.u32 0, Value.int IntKind.u32 0, Value.int IntKind.u32 0, Value.int IntKind.u32 0, Value.int IntKind.u32 0, Value.int IntKind.u32 0] 48)
      have hVE : w1.heap.size < w3.heap.size := hV.lt
      generalize w3.alloc (.cells #[Value.int IntKind.u32 0, Value.int IntKind.u32 0, Value.int IntKind.u32 0, Value.int IntKind.u32 0, Value.int IntKind.u32 0, Value.int IntKind.u32 0, Value.int IntKind.u32 0, Value.int IntKind.u32 0, Value.int IntKind.u32 0, Value.int IntKind.u32 0, Value.int IntKind.u32 0, Value.int IntKind.u32 0, Value.int IntKind.u32 0, Value.int IntKind.u32 0, Value.int IntKind.u32 0, Value.int IntKind.u32 0] 48) = W6 at *
      generalize hEv : w3.heap.size = Ev at *
      generalize hVv : w1.heap.size = V at *
      clear hEv hVv hV hown hb5
      refine (count32_any m hm _).mono ?_
      rintro e w7 ⟨rfl, q7, rfl⟩
      have hs32 : size m ≤ 32 := cnt_le 32 m
      generalize hsm : size m = sm at *
      clear hsm
      go_wp2_with fail
      go_loopw [7, 35] (fun L i wr => ∃ (k m1 : Nat) (l1 E : List Nat) (least r c : Nat), k ≤ len1 ∧ i = .int .i64 (k : Int) ∧ L = .int .i64 (least : Int) ∧ m1 < 4294967296 ∧ Below w.heap.size w wr ∧
          Blk wr V [.int .u32 (m1 : Int), .slice (some ⟨r, 0, none⟩) 16 c] 46 (0, 0) ∧ wr.ownsRow w.heap.size 42 1 (.slice (some ⟨r, 0, none⟩) 16 c) 16 (cellsU l1) ∧
          Blk wr Ev (cellsU E) 48 (0, 0) ∧ Hid (Few m m1 l1 E least)) (fun _ i _ => len1 - (intOf i).toNat)
      case atStart => exact ⟨0, m, z16, z16, sm, w.heap.size, 16, Nat.zero_le _, rfl, rfl, hm, below_drewN hb6 _, hV6.drewN _, hown6, hE.drewN _, hF⟩
      case round =>
        clear hF hE hb6 hV6 hown6
        obtain ⟨k, m1, l1, E, least, r, c, hk, rfl, rfl, hm1, hb, hV, hown, hE, hF⟩ := hrel
        have hl1 : l1.length = 16 := hF.out.len
        have hs1 : Sets wr r 0 l1 := sets_of hown hl1 (fun z hz => by
          obtain ⟨j, hj, rfl⟩ := List.mem_iff_getElem.1 hz
          have := hF.out.lt j
          simpa [hj] using this)
        have HL1 := Lib.hid hl1
        clear hl1
        by_cases hlt : k < len1
        · obtain ⟨b, o, x, y, rfl, hx, hy, wx, wy⟩ := hpairs k hlt
          have hx2 := cell_below hb hx (by have := World.block_lt_of_cell? w _ hx; exact this)
          have hy2 := cell_below hb hy (by have := World.block_lt_of_cell? w _ hy; exact this)
          have hX := Blk.new wr [.int .i64 x, .int .i64 y] 50 (0, 0)
          have hbX : Below wr.heap.size wr (wr.alloc (.cells #[.int .i64 x, .int .i64 y] 50)) := (Below.refl _ _).alloc (Nat.le_refl _) _
          have v1 : wr.cell? ⟨V, 0, none⟩ = some (.int .u32 (m1 : Int)) := hV.cell 0
          have v2 : wr.cell? ⟨V, 1, none⟩ = some (.slice (some ⟨r, 0, none⟩) 16 c) := hV.cell 1
          have hVlt := hV.lt
          have hElt := hE.lt
          clear wx wy hx hy
          rcases cast_cases_of hm1 (saysOf_row hm1 hs1 HL1.out (c := c)) x y with ⟨kk, hk0, hcast⟩ | ⟨p, q, g, o', rfl, rfl, h16, hAA, hss, hcan, hpq, hbit⟩
          · have hk2 : (kk != 0) = true := by rw [bne_iff_ne]; exact hk0
            go_wp2_with fail
            refine (hcast _ hbX).mono ?_
            rintro e w4 ⟨rfl, hb4⟩
            have hbA : Below wr.heap.size wr w4 := hbX.trans (hb4.mono hbX.size)
            have hbB := hbA.alloc hbA.size (.cells #[.int .u32 0, .slice none 0 0] 46)
            go_wp2_with fail
            go_roundw
            case rel => exact ⟨k + 1, m1, l1, E, least, r, c, by omega, by go_num, rfl, hm1, hb.trans (hbB.mono hb.size), hV.later hbB, ownsRow_later hown hbB, hE.later hbB, hF⟩
            case measure => simp [intOf]; omega
          · clear h16 hAA hss
            have hq16 := hcan.q16
            have hp16 := hcan.p16
            have hstep := hF.out.step hcan hpq
            have hpg := cast_purged hF.out.len hF.out.lt hF.out.check hcan.by_ hcan.at_ hpq
            have hElen := hF.out.lenE
            have hElt2 := hF.out.ltE
            have hleast := hF.out.least_le
            have hql : q < l1.length := by rw [HL1.out]; exact hq16
            have hgd : l1[q] = l1.getD q 0 := by rw [List.getD_eq_getElem?_getD, List.getElem?_eq_getElem hql]; rfl
            have hcast := cast_good m1 hm1 l1 HL1.out r 0 c p q hp16 hq16 _ (hs1.later hbX) hF.out.check hcan.by_ hcan.at_ hpq (by rw [hgd]; exact hbit)
            rw [hgd] at hcast
            obtain ⟨r1, r2, hr⟩ : ∃ r1 r2, purge 16 m1 (l1.set q (l1.getD q 0 ||| 2 ^ p)) = (r1, r2) := ⟨_, _, rfl⟩
            rw [hr] at hcast hpg hstep
            simp only [] at hcast
            have hr1 : r1 < 4294967296 := by have := hpg.good.m16; simp at this; omega
            have hr1z : r1 ≠ 0 := hpg.some_
            have hgood : Good0 r1 r2 := hpg.good
            have hworst : worst r1 r2 < 0 := hpg.worst
            have hr2l : r2.length = 16 := hgood.len
            have hdz : diff r1 m1 = 0 := (diff_zero_part hr1).2 hpg.sub
            have hdn : bits .andNot .u32 (r1 : Int) (m1 : Int) = 0 := by have h := diff_num r1 m1; rw [hdz] at h; exact h
            have hmt := memb_test r1 q hq16
            rw [hmt] at hcast
            have e2 := bit_num r1 q hr1
            have e4 : ((r1 / 2 ^ q : Nat) : Int) = (r1 : Int) / 2 ^ q := by simp
            rw [e4] at e2
            obtain ⟨x0, HX0⟩ : ∃ x0, Hid (E.getD q 0 = x0) := ⟨_, Lib.hid rfl⟩
            obtain ⟨y0, HY0⟩ : ∃ y0, Hid (x0 ||| 2 ^ p = y0) := ⟨_, Lib.hid rfl⟩
            have hx0 : x0 < 4294967296 := by rw [← HX0.out]; exact hElt2 q
            have hP := one_lt (k := p) (by omega)
            have hor := or_num x0 (2 ^ p) hx0 hP
            have hw : IntKind.u32.wrap (2 ^ p : Int) = ((2 ^ p : Nat) : Int) := by
              have e : (2 ^ p : Int) = ((2 ^ p : Nat) : Int) := by simp
              rw [e]; exact wraps_u32 _ (Int.natCast_nonneg _) (by rw [show (2 : Int) ^ 32 = ((4294967296 : Nat) : Int) from rfl]; exact Int.ofNat_lt.2 hP)
            rw [HY0.out] at hor
            have hq2 : (cellsU E)[q]? = some (.int .u32 (x0 : Int)) := by
              rw [cellsU_get E q (by omega)]
              rw [← HX0.out, List.getD_eq_getElem?_getD, List.getElem?_eq_getElem (by omega)]; rfl
            have hE2 : E.set q (E.getD q 0 ||| 2 ^ p) = E.set q y0 := by rw [HX0.out, HY0.out]
            rw [hE2] at hstep
            have HF2 := Lib.hid hstep
            have HRL := Lib.hid hr2l
            have hwl : min least (size r1) ≤ 32 := Nat.le_trans (Nat.min_le_left _ _) hleast
            clear hstep hr2l hr hgd hbit hdz hmt e4 hE2 hpg
            generalize hPP : 2 ^ p = P at hw hor hP
            clear hPP
            go_wp2_with fail
            refine hcast.mono ?_
            rintro e w5 ⟨r', c', rfl, hb4, hown5⟩
            have hbA : Below wr.heap.size wr w5 := hbX.trans (hb4.mono hbX.size)
            have hbR := (Below.refl w5.heap.size w5).alloc (Nat.le_refl _) (.cells #[.int .u32 (r1 : Int), .slice (some ⟨r', 0, none⟩) 16 c'] 46)
            have hbB := hbA.trans (hbR.mono hbA.size)
            have hR := Blk.new w5 [.int .u32 (r1 : Int), .slice (some ⟨r', 0, none⟩) 16 c'] 46 (0, 0)
            have hX6 := (hX.later hb4).later hbR
            have hV6 := hV.later hbB
            have hE6 := hE.later hbB
            have hown6 := hown5.alloc (.cells #[.int .u32 (r1 : Int), .slice (some ⟨r', 0, none⟩) 16 c'] 46)
            have hbase := hX.lt
            have hRX : wr.heap.size < w5.heap.size := Nat.lt_of_lt_of_le hX.lt hb4.size
            clear hcast hown5 hX hE hV hown
            go_wp2_with fail
            generalize w5.alloc (.cells #[.int .u32 (r1 : Int), .slice (some ⟨r', 0, none⟩) 16 c'] 46) = W6 at *
            generalize (wr.alloc (.cells #[.int .i64 (p : Int), .int .i64 (q : Int)] 50)).heap.size = base at *
            generalize hRb : w5.heap.size = Rb at *
            generalize hXb : wr.heap.size = Xb at *
            have x1 : W6.cell? ⟨Xb, 0, none⟩ = some (.int .i64 (p : Int)) := hX6.cell 0
            have x2 : W6.cell? ⟨Xb, 1, none⟩ = some (.int .i64 (q : Int)) := hX6.cell 1
            have x3 : W6.cell? ⟨Ev, q, none⟩ = some (.int .u32 (x0 : Int)) := (hE6.cell q).trans hq2
            have x4 : W6.frozen? ⟨Ev, q, none⟩ = false := hE6.free q (.inr (Nat.zero_le _))
            go_region
            have hE7 : Blk (W6.setCell ⟨Ev, q, none⟩ (.int .u32 (y0 : Int))).drew Ev (cellsU (E.set q y0)) 48 (0, 0) := by
              have h := hE6.set q (.int .u32 (y0 : Int))
              rw [cellsU_set] at h
              exact h
            have hX7 : Blk (W6.setCell ⟨Ev, q, none⟩ (.int .u32 (y0 : Int))).drew Xb _ _ _ := hX6.other (by omega) q _
            have hR7 : Blk (W6.setCell ⟨Ev, q, none⟩ (.int .u32 (y0 : Int))).drew Rb _ _ _ := hR.other (by omega) q _
            have hV7 : Blk (W6.setCell ⟨Ev, q, none⟩ (.int .u32 (y0 : Int))).drew V _ _ _ := hV6.other (by omega) q _
            have hown7 : (W6.setCell ⟨Ev, q, none⟩ (.int .u32 (y0 : Int))).drew.ownsRow base 42 1 (.slice (some ⟨r', 0, none⟩) 16 c') 16 (cellsU r2) := ownsRow_setCell_below hown6 (a := ⟨Ev, q, none⟩) (by show Ev < base; omega) _
            have hb7 : Below w.heap.size w (W6.setCell ⟨Ev, q, none⟩ (.int .u32 (y0 : Int))).drew := ((hb.trans (hbB.mono (by rw [← hXb]; exact hb.size))).setCell (p := ⟨Ev, q, none⟩) (by show w.heap.size ≤ Ev; omega) _).drew
            clear hX6 hR hV6 hE6 hown6 x1 x2 x3 x4 v1 v2 hor hw hq2 hbB hbR hbA hb4 hbX
            generalize (W6.setCell ⟨Ev, q, none⟩ (.int .u32 (y0 : Int))).drew = W7 at *
            have y1 : W7.cell? ⟨Rb, 0, none⟩ = some (.int .u32 (r1 : Int)) := hR7.cell 0
            generalize hss : size r1 = sr at *
            have hcount := count32_any r1 hr1
            rw [hss] at hcount
            clear hss
            go_wp2_with fail
            refine (hcount _).mono ?_
            rintro e w8 ⟨rfl, q8, rfl⟩
            have y1 : (W7.drewN q8).cell? ⟨Rb, 0, none⟩ = some (.int .u32 (r1 : Int)) := hR7.cell 0
            have y2 : (W7.drewN q8).cell? ⟨Rb, 1, none⟩ = some (.slice (some ⟨r', 0, none⟩) 16 c') := hR7.cell 1
            have y3 : (W7.drewN q8).cell? ⟨V, 0, none⟩ = some (.int .u32 (m1 : Int)) := hV7.cell 0
            have y4 : (W7.drewN q8).cell? ⟨Xb, 1, none⟩ = some (.int .i64 (q : Int)) := hX7.cell 1
            have hs7 : Sets (W7.drewN q8) r' 0 r2 := row_of hown7 HRL.out hgood.lt
            have hright := right_any r1 hr1z r2 hgood hworst r' 0 c' (W7.drewN q8) hs7
            cases hbt : r1.testBit q with
            | false =>
              rw [if_neg (by rw [hbt]; decide)] at e2
              clear hbt
              go_wp2_with fail
              refine hright.mono ?_
              rintro e w9 ⟨rfl, hb9⟩
              have hE9 := (hE7.drewN q8).later hb9
              have hR9 := (hR7.drewN q8).later hb9
              have hV9 := (hV7.drewN q8).later hb9
              have hown9 : w9.ownsRow base 42 1 (.slice (some ⟨r', 0, none⟩) 16 c') 16 (cellsU r2) := ownsRow_later (w := W7.drewN q8) hown7 hb9
              have hb10 := (below_drewN hb7 q8).trans (hb9.mono (below_drewN hb7 q8).size)
              have z1 : w9.cell? ⟨Rb, 0, none⟩ = some (.int .u32 (r1 : Int)) := hR9.cell 0
              have z2 : w9.cell? ⟨Rb, 1, none⟩ = some (.slice (some ⟨r', 0, none⟩) 16 c') := hR9.cell 1
              have z5 : w9.cell? ⟨V, 0, none⟩ = some (.int .u32 (m1 : Int)) := hV9.cell 0
              have z6 : w9.cell? ⟨V, 1, none⟩ = some (.slice (some ⟨r, 0, none⟩) 16 c) := hV9.cell 1
              have z3 : w9.frozen? ⟨V, 0, none⟩ = false := hV9.free 0 (.inr (Nat.zero_le _))
              have z4 : w9.frozen? ⟨V, 1, none⟩ = false := hV9.free 1 (.inr (Nat.zero_le _))
              have hV10 : Blk ((w9.setCell ⟨V, 0, none⟩ (.int .u32 (r1 : Int))).setCell ⟨V, 1, none⟩ (.slice (some ⟨r', 0, none⟩) 16 c')) V [.int .u32 (r1 : Int), .slice (some ⟨r', 0, none⟩) 16 c'] 46 (0, 0) := (hV9.set 0 _).set 1 _
              have hE10 : Blk ((w9.setCell ⟨V, 0, none⟩ (.int .u32 (r1 : Int))).setCell ⟨V, 1, none⟩ (.slice (some ⟨r', 0, none⟩) 16 c')) Ev (cellsU (E.set q y0)) 48 (0, 0) := (hE9.other (by omega) 0 _).other (by omega) 1 _
              have hown10 : ((w9.setCell ⟨V, 0, none⟩ (.int .u32 (r1 : Int))).setCell ⟨V, 1, none⟩ (.slice (some ⟨r', 0, none⟩) 16 c')).ownsRow base 42 1 (.slice (some ⟨r', 0, none⟩) 16 c') 16 (cellsU r2) := ownsRow_setCell_below (ownsRow_setCell_below hown9 (a := ⟨V, 0, none⟩) (by show V < base; omega) _) (a := ⟨V, 1, none⟩) (by show V < base; omega) _
              have hb11 : Below w.heap.size w ((w9.setCell ⟨V, 0, none⟩ (.int .u32 (r1 : Int))).setCell ⟨V, 1, none⟩ (.slice (some ⟨r', 0, none⟩) 16 c')) := (hb10.setCell (p := ⟨V, 0, none⟩) hlow _).setCell (p := ⟨V, 1, none⟩) hlow _
              have hown11 := ownsRow_mono hown10 (show w.heap.size ≤ base by have := hb.size; omega)
              clear hE9 hR9 hV9 hown9 hown10 hE7 hX7 hR7 hV7 hown7 y1 y2 y3 y4 hs7
              go_wp2_with fail
              go_roundw
              case rel => exact ⟨k + 1, r1, r2, E.set q y0, min least sr, r', c', by omega, by go_num, by first | rfl | (congr 1; omega), hr1, hb11, hV10, hown11, hE10, HF2⟩
              case measure => simp [intOf]; omega
            | true =>
              rw [if_pos hbt] at e2
              clear hbt
              go_wp2_with fail
              refine hright.mono ?_
              rintro e w9 ⟨rfl, hb9⟩
              have hE9 := (hE7.drewN q8).later hb9
              have hR9 := (hR7.drewN q8).later hb9
              have hV9 := (hV7.drewN q8).later hb9
              have hown9 : w9.ownsRow base 42 1 (.slice (some ⟨r', 0, none⟩) 16 c') 16 (cellsU r2) := ownsRow_later (w := W7.drewN q8) hown7 hb9
              have hb10 := (below_drewN hb7 q8).trans (hb9.mono (below_drewN hb7 q8).size)
              have z1 : w9.cell? ⟨Rb, 0, none⟩ = some (.int .u32 (r1 : Int)) := hR9.cell 0
              have z2 : w9.cell? ⟨Rb, 1, none⟩ = some (.slice (some ⟨r', 0, none⟩) 16 c') := hR9.cell 1
              have z5 : w9.cell? ⟨V, 0, none⟩ = some (.int .u32 (m1 : Int)) := hV9.cell 0
              have z6 : w9.cell? ⟨V, 1, none⟩ = some (.slice (some ⟨r, 0, none⟩) 16 c) := hV9.cell 1
              have z3 : w9.frozen? ⟨V, 0, none⟩ = false := hV9.free 0 (.inr (Nat.zero_le _))
              have z4 : w9.frozen? ⟨V, 1, none⟩ = false := hV9.free 1 (.inr (Nat.zero_le _))
              have hV10 : Blk ((w9.setCell ⟨V, 0, none⟩ (.int .u32 (r1 : Int))).setCell ⟨V, 1, none⟩ (.slice (some ⟨r', 0, none⟩) 16 c')) V [.int .u32 (r1 : Int), .slice (some ⟨r', 0, none⟩) 16 c'] 46 (0, 0) := (hV9.set 0 _).set 1 _
              have hE10 : Blk ((w9.setCell ⟨V, 0, none⟩ (.int .u32 (r1 : Int))).setCell ⟨V, 1, none⟩ (.slice (some ⟨r', 0, none⟩) 16 c')) Ev (cellsU (E.set q y0)) 48 (0, 0) := (hE9.other (by omega) 0 _).other (by omega) 1 _
              have hown10 : ((w9.setCell ⟨V, 0, none⟩ (.int .u32 (r1 : Int))).setCell ⟨V, 1, none⟩ (.slice (some ⟨r', 0, none⟩) 16 c')).ownsRow base 42 1 (.slice (some ⟨r', 0, none⟩) 16 c') 16 (cellsU r2) := ownsRow_setCell_below (ownsRow_setCell_below hown9 (a := ⟨V, 0, none⟩) (by show V < base; omega) _) (a := ⟨V, 1, none⟩) (by show V < base; omega) _
              have hb11 : Below w.heap.size w ((w9.setCell ⟨V, 0, none⟩ (.int .u32 (r1 : Int))).setCell ⟨V, 1, none⟩ (.slice (some ⟨r', 0, none⟩) 16 c')) := (hb10.setCell (p := ⟨V, 0, none⟩) hlow _).setCell (p := ⟨V, 1, none⟩) hlow _
              have hown11 := ownsRow_mono hown10 (show w.heap.size ≤ base by have := hb.size; omega)
              clear hE9 hR9 hV9 hown9 hown10 hE7 hX7 hR7 hV7 hown7 y1 y2 y3 y4 hs7
              go_wp2_with fail
              go_roundw
              case rel => exact ⟨k + 1, r1, r2, E.set q y0, min least sr, r', c', by omega, by go_num, by first | rfl | (congr 1; omega), hr1, hb11, hV10, hown11, hE10, HF2⟩
              case measure => simp [intOf]; omega
        · obtain rfl : k = len1 := by omega
          have hck := (check_zero hF.out.len hF.out.lt).1 hF.out.check
          have hmz : ((m1 : Int) != 0) = true := by rw [bne_iff_ne]; have := hck.1; omega
          have hleast := hF.out.least_le
          clear hck
          go_wp2_with fail
          obtain ⟨wo, rfl⟩ : ∃ wo : World, wo = wr := ⟨_, rfl⟩
          go_loopw [90] (fun i wr => ∃ (j q : Nat), j ≤ 16 ∧ i = .int .i64 (j : Int) ∧ wr = wo.drewN q) (fun i _ => 16 - (intOf i).toNat)
          case atStart => exact ⟨0, 0, Nat.zero_le _, rfl, rfl⟩
          case round =>
            obtain ⟨j, q, hj, rfl, rfl⟩ := hrel
            have v1 : (wo.drewN q).cell? ⟨V, 0, none⟩ = some (.int .u32 (m1 : Int)) := hV.cell 0
            by_cases hlj : j < 16
            · have e1 := bit_num m j hm
              have e2 := bit_num m1 j hm1
              have e3 : ((m / 2 ^ j : Nat) : Int) = (m : Int) / 2 ^ j := by simp
              have e4 : ((m1 / 2 ^ j : Nat) : Int) = (m1 : Int) / 2 ^ j := by simp
              rw [e3] at e1
              rw [e4] at e2
              have hgone := hF.out.gone j
              clear e3 e4 hmz
              cases hb1 : m.testBit j with
              | false =>
                rw [if_neg (by rw [hb1]; decide)] at e1
                clear hb1 e2 hgone
                go_wp2_with fail
                go_roundw
                case rel => exact ⟨j + 1, q, by omega, by go_num, by first | trivial | rfl⟩
                case measure => simp [intOf]; omega
              | true =>
                rw [if_pos hb1] at e1
                cases hb2 : m1.testBit j with
                | true =>
                  rw [if_pos hb2] at e2
                  clear hb1 hb2 hgone
                  go_wp2_with fail
                  go_roundw
                  case rel => exact ⟨j + 1, q, by omega, by go_num, by first | trivial | rfl⟩
                  case measure => simp [intOf]; omega
                | false =>
                  rw [if_neg (by rw [hb2]; decide)] at e2
                  have hg := hgone hb1 hb2
                  have hx0 := hF.out.ltE j
                  have hlE := hF.out.lenE
                  have v3 : (wo.drewN q).cell? ⟨Ev, j, none⟩ = some (.int .u32 ((E.getD j 0 : Nat) : Int)) := by
                    have h := hE.cell j
                    rw [cellsU_get E j (by omega)] at h
                    rw [List.getD_eq_getElem?_getD, List.getElem?_eq_getElem (by omega)]
                    exact h
                  have h32 : size (E.getD j 0) ≤ 32 := cnt_le 32 _
                  generalize E.getD j 0 = x0 at *
                  have hcount := count32_any x0 hx0
                  generalize size x0 = s0 at *
                  have hnot : ¬ (2 * (s0 : Int) ≤ (least : Int)) := by omega
                  clear hb1 hb2 hgone hlE
                  go_wp2_with fail
                  refine (hcount _).mono ?_
                  rintro e w' ⟨rfl, q', rfl⟩
                  go_wp2_with fail
                  go_roundw
                  case rel => exact ⟨j + 1, _, by omega, by go_num, rfl⟩
                  case measure => simp [intOf]; omega
            · obtain rfl : j = 16 := by omega
              go_wp2_with fail
              go_ret
              exact ⟨rfl, below_drewN hb q⟩
  · have hk : (check m z16 != 0) = true := by rw [bne_iff_ne]; exact hc
    generalize check m z16 = k at *
    clear hc
    go_wp2_with fail
    refine (lives_any _).mono ?_
    rintro e w4 ⟨rfl, hb6⟩
    go_wp2_with fail
    go_ret
    exact ⟨rfl, hb5.trans (hb6.mono hb5.size)⟩
end Go.Proofs.Ytclobldldddjnaa.Vote
