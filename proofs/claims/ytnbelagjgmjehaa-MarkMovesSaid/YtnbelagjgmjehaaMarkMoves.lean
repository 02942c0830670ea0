/-
  The walk of the law MarkMoves: for every three lists it returns true; what was there stays.
-/
import Derived.Test.YtnbelagjgmjehaaMarkW
import Derived.ArgAppend
set_option linter.unusedVariables false
namespace Go.Proofs.Ytnbelagjgmjehaa.Mark
open Go.RowKit Go.Proofs.Ytnbelagjgmjehaa.Bv

theorem info64 : (Try.prog.info? 35).map (fun i => (i.zero, i.size, i.bytes)) = some (some (.int .u64 0), 1, 8) := by kernel_rfl

def cells (zs : List W) : List Value := zs.map fun z => Value.int .u64 (U z)

theorem cells_len (zs : List W) : (cells zs).length = zs.length := by unfold cells; simp
theorem cells_get (zs : List W) (i : Nat) (h : i < zs.length) : (cells zs)[i]? = some (.int .u64 (U zs[i])) := by unfold cells; simp [h]
theorem cells_one (zs : List W) : ∀ u ∈ cells zs, u.oneCell' = true := by
  intro u hu
  unfold cells at hu
  rw [List.mem_map] at hu
  obtain ⟨z, _, rfl⟩ := hu
  rfl
theorem cells_set (zs : List W) (i : Nat) (n : W) : (cells zs).set i (.int .u64 (U n)) = cells (zs.set i n) := by
  unfold cells
  rw [List.map_set]

theorem clone_any (b off n c : Nat) (zs : List W) (w : World) (h1 : n = zs.length) (h0 : 0 < n) (hr : n * 8 ≤ 140737488351232)
    (hc : ∀ i (h : i < zs.length), w.cell? ⟨b, off + i, none⟩ = some (.int .u64 (U zs[i]))) :
    Calls Try.prog 31 #[.slice (some ⟨b, off, none⟩) n c] w fun e w' => ∃ g cap, e = .returned (.slice (some ⟨g, 0, none⟩) n cap) ∧ w'.ownsRow w.heap.size 35 1 (.slice (some ⟨g, 0, none⟩) n cap) n (cells zs) ∧ Below w.heap.size w w' := by
  obtain ⟨i0, hi, hz0, hz1, hz2⟩ := info_parts info64
  have qT : ∀ (w : World) (a : Option Addr) (n c n' c' : Nat), (binOp .eql 47 (.slice a n c) (.slice none n' c')).run Try.prog w = .ok (.bool a.isNone) w := fun w a n c n' c' => Lib.run_eql_slice_nil w _ _ a n c n' c' Try.underlying47
  have hown0 : (w.alloc (.cells #[] 35)).ownsRow w.heap.size 35 1 (.slice (some ⟨w.heap.size, 0, none⟩) 0 0) 0 [] := World.ownsRow_made _ _ _ (Nat.le_refl _) (Nat.zero_le _) rfl
  have hb0 := (Below.refl w.heap.size w).alloc (Nat.le_refl _) (.cells #[] 35)
  have hnews : ∀ j u, (cells zs)[j]? = some u → (w.alloc (.cells #[] 35)).cell? ((⟨b, off, none⟩ : Addr).add j) = some u := by
    intro j u hj
    have hjl : j < zs.length := by have h := (List.getElem?_eq_some_iff.1 hj).1; rwa [cells_len] at h
    rw [cells_get zs j hjl] at hj
    rw [addAt, hb0.cell (World.block_lt_of_cell? w _ (hc j hjl)), hc j hjl]
    exact hj
  have HL := Lib.hid h1
  have HN := Lib.hid hnews
  clear h1 hc hnews
  go_enter Try.func31, Try.ntmps31
  go_wp2_with (at_builtin; refine wpList_append_own _ rfl _ _ 47 rfl w.heap.size 35 i0 (.int .u64 0) 1 8 Try.underlying47 hi hz0 hz1 hz2 rfl (by decide) _ _ _ rfl hown0 ⟨b, off, none⟩ n c (cells zs) rfl ?c1 HN.out (cells_one zs) ?c2 ?c3 ?c4 ?_)
  case c1 => rw [cells_len, ← HL.out]; omega
  case c2 => unfold maxLen; omega
  case c3 => omega
  case c4 => simp
  intro v' w1 hown' hgrow _
  have hb1 := hb0.grown hgrow (by simp) (by intro k hk; simp [Value.ownBlock] at hk; omega)
  have hex : ∃ g cap, v' = .slice (some ⟨g, 0, none⟩) n cap := by
    rcases hown'.2 with ⟨_, h⟩ | ⟨g, cap, cur, h, _⟩
    · omega
    · exact ⟨g, cap, h⟩
  obtain ⟨g, cap, hv⟩ := hex
  rw [hv] at hown' ⊢
  clear hv hgrow hown0
  go_wp2_with fail
  go_ret
  exact ⟨g, cap, rfl, hown', hb1⟩

/-- A slice of words that came in, read as a list. -/
def wordsOf (z : List Int) (n : Nat) : List W := (z.take n).map (BitVec.ofInt 64)
theorem sl_of_row {w : World} {a : Option Addr} {n c : Nat} {z : List Int} (h : IsRow .u64 w a n c z) : Sl w a n (wordsOf z n) := by
  obtain ⟨h1, h2, h3⟩ := row_len h
  have hlen : (wordsOf z n).length = n := by unfold wordsOf; simp; omega
  refine ⟨hlen.symm, h3, ?_⟩
  by_cases h0 : n = 0
  · subst h0; left; unfold wordsOf; simp
  · right
    obtain ⟨b, off, ha, hc⟩ := row_at h (by omega)
    refine ⟨b, off, ha, fun i hi => ?_⟩
    rw [hlen] at hi
    obtain ⟨c1, c2⟩ := hc i hi
    have h2 : (wordsOf z n)[i] = BitVec.ofInt 64 (z.getD i 0) := by
      unfold wordsOf
      have hiz : i < z.length := by omega
      simp [hiz]
    simp [Lit.wf, IntKind.min, IntKind.max, IntKind.signed, IntKind.bits] at c2
    rw [c1, h2, U_of64 _ (by simpa using c2.1) (by simp; omega)]
theorem ints_of_row {w : World} {a : Option Addr} {n c : Nat} {z : List Int} (h : IsRow .i64 w a n c z) :
    n ≤ 9223372036854775807 ∧ ∀ i, i < n → ∃ b off, a = some ⟨b, off, none⟩ ∧ w.cell? ⟨b, off + i, none⟩ = some (.int .i64 (z.getD i 0)) ∧ -9223372036854775808 ≤ z.getD i 0 ∧ z.getD i 0 ≤ 9223372036854775807 := by
  refine ⟨(row_len h).2.2, fun i hi => ?_⟩
  obtain ⟨b, off, ha, hc⟩ := row_at h (by omega)
  obtain ⟨c1, c2⟩ := hc i hi
  simp [Lit.wf, IntKind.min, IntKind.max, IntKind.signed, IntKind.bits] at c2
  exact ⟨b, off, ha, c1, by simpa using c2.1, by simp; omega⟩

theorem sl_one {w : World} {b : Nat} {x : W} (h : w.cell? ⟨b, 0, none⟩ = some (.int .u64 (U x))) : Sl w (some ⟨b, 0, none⟩) 1 [x] :=
  ⟨rfl, by decide, .inr ⟨b, 0, rfl, fun i hi => match i, hi with | 0, _ => h⟩⟩

set_option maxHeartbeats 1000000 in
theorem moves_walk (a0 : Option Addr) (len0 cap0 : Nat) (z0 : List Int) (a1 : Option Addr) (len1 cap1 : Nat) (z1 : List Int) (a2 : Option Addr) (len2 cap2 : Nat) (z2 : List Int) (w : World) (w0 : IsRow .u64 w a0 len0 cap0 z0) (r0 : cap0 * 8 ≤ 140737488351232) (w1 : IsRow .i64 w a1 len1 cap1 z1) (r1 : cap1 * 8 ≤ 140737488351232) (w2 : IsRow .u64 w a2 len2 cap2 z2) (r2 : cap2 * 8 ≤ 140737488351232) :
    Calls Try.prog 11 #[.slice a0 len0 cap0, .slice a1 len1 cap1, .slice a2 len2 cap2] w fun e w' => e = .returned (.bool true) ∧ Below w.heap.size w w' := by
  have hcap : len0 ≤ cap0 := by rcases w0 with ⟨_, h, h', _⟩ | ⟨_, _, h, _⟩ <;> omega
  obtain ⟨l0, k0, s0⟩ := sl_of_row w0
  obtain ⟨k1, s1⟩ := ints_of_row w1
  have s2 := sl_of_row w2
  clear w0 w1 w2
  generalize wordsOf z0 len0 = q0 at *
  generalize wordsOf z2 len2 = q2 at *
  have S1 := Lib.hid s1
  have L0 := Lib.hid l0
  clear s1 l0
  by_cases h0 : len0 = 0
  · have h0' : ((len0 : Int) == 0) = true := by simp [h0]
    have H0 := Lib.hid h0
    clear h0 s0 s2
    go_enter Try.func11, Try.ntmps11
    go_wp2_with fail
    refine (lives_any _).mono ?_
    rintro e w1 ⟨rfl, hb1⟩
    go_wp2_with fail
    refine (lives_any _).mono ?_
    rintro e w2 ⟨rfl, hb2⟩
    go_wp2_with fail
    go_ret
    exact ⟨rfl, hb1.trans (hb2.mono hb1.size)⟩
  · have h0' : ((len0 : Int) == 0) = false := by simp [h0]
    rcases s0 with s0 | ⟨b0, o0, rfl, c0⟩
    · exact absurd (by rw [L0.out, s0]; rfl) h0
    have hpos : 0 < len0 := by omega
    obtain ⟨m2, k2, s2⟩ := s2
    have C0 := Lib.hid c0
    have S2 := Lib.hid s2
    have L2 := Lib.hid m2
    clear h0 c0 s2 m2
    go_enter Try.func11, Try.ntmps11
    go_wp2_with fail
    refine (lives_any _).mono ?_
    rintro e w1 ⟨rfl, hb1⟩
    go_wp2_with fail
    have hc1 : ∀ i (h : i < q0.length), w1.cell? ⟨b0, o0 + i, none⟩ = some (.int .u64 (U q0[i])) := fun i h => by
      rw [hb1.cell (World.block_lt_of_cell? w _ (C0.out i h))]; exact C0.out i h
    refine (clone_any b0 o0 len0 cap0 q0 w1 L0.out hpos (by omega) hc1).mono ?_
    rintro e w2 ⟨g, cap, rfl, hown, hb2⟩
    clear hc1
    have hb := hb1.trans (hb2.mono hb1.size)
    have hown := ownsRow_mono hown hb1.size
    clear hb1 hb2
    go_wp2_with fail
    have hsl : Sl w2 (some ⟨g, 0, none⟩) len0 q0 := by
      refine ⟨L0.out, k0, .inr ⟨g, 0, rfl, fun i hi => ?_⟩⟩
      rw [Nat.zero_add, hown.cellAt i (by have := L0.out; omega), cells_get q0 i hi]
    refine (of_any _ _ cap q0 w2 hsl).mono ?_
    rintro e w3 ⟨rfl, hb3⟩
    have hown := ownsRow_later hown hb3
    have hb := hb.trans (hb3.mono hb.size)
    clear hsl hb3
    go_wp2_with fail
    go_loopw [8, 26] (fun v i wr => ∃ (k : Nat) (zs : List W), k ≤ len2 ∧ i = .int .i64 k ∧ v = .int .u64 (U (ofF mix zs)) ∧ Hid (zs.length = len0) ∧ wr.ownsRow w.heap.size 35 1 (.slice (some ⟨g, 0, none⟩) len0 cap) len0 (cells zs) ∧ Below w.heap.size w wr) (fun _ i _ => len2 - (intOf i).toNat)
    case atStart => exact ⟨0, q0, Nat.zero_le _, rfl, rfl, L0.out.symm, hown, hb⟩
    case round =>
      obtain ⟨k, zs, hk, rfl, rfl, HZ, hown', hb'⟩ := hrel
      clear hown hb
      by_cases hlt : k < len2
      · have hk2 : k < q2.length := by have := L2.out; omega
        rcases S2.out with hnil | ⟨b2, o2, rfl, c2⟩
        · rw [hnil] at hk2; exact absurd hk2 (by simp)
        have cn := cell_below hb' (c2 k hk2) (World.block_lt_of_cell? w _ (c2 k hk2))
        generalize q2[k] = nn at cn
        clear c2
        have hmod : k % len0 < len0 := Nat.mod_lt _ hpos
        have tail : ∀ p, p < len0 → ∃ x, wr.cell? ⟨g, p, none⟩ = some (.int .u64 (U x)) ∧ Hid (ofF mix zs ^^^ (ofF mix [x] ^^^ ofF mix [nn]) = ofF mix (zs.set p nn)) := by
          intro p hp
          have hpz : p < zs.length := by have := HZ.out; omega
          refine ⟨zs[p], by rw [hown'.cellAt p (by omega), cells_get zs p hpz], ?_⟩
          show _ = _
          rw [ofF_set mix zs p hpz, ofF_one, ofF_one]
        have TL := Lib.hid tail
        clear tail
        have main : ∃ p, p < len0 ∧ (k < len1 ∧ (∃ (b1 o1 Z : Nat), Hid (a1 = some ⟨b1, o1, none⟩) ∧ wr.cell? ⟨b1, o1 + k, none⟩ = some (.int .i64 Z) ∧ Hid (Z % len0 = p ∧ Z ≤ 9223372036854775807)) ∨ Hid (k % len0 = p) ∧ (len1 ≤ k ∨ k < len1 ∧ ∃ (b1 o1 : Nat) (z : Int), Hid (a1 = some ⟨b1, o1, none⟩) ∧ wr.cell? ⟨b1, o1 + k, none⟩ = some (.int .i64 z) ∧ z < 0)) := by
          by_cases hp : k < len1
          · obtain ⟨b1, o1, ha, c1, l1, l2⟩ := S1.out k hp
            have cp := cell_below hb' c1 (World.block_lt_of_cell? w _ c1)
            by_cases hz : z1.getD k 0 < 0
            · exact ⟨k % len0, hmod, .inr ⟨rfl, .inr ⟨hp, b1, o1, _, ha, cp, hz⟩⟩⟩
            · obtain ⟨Z, hZ⟩ := Int.eq_ofNat_of_zero_le (show 0 ≤ z1.getD k 0 by omega)
              rw [hZ] at cp l2
              exact ⟨Z % len0, Nat.mod_lt _ hpos, .inl ⟨hp, b1, o1, Z, ha, cp, rfl, by omega⟩⟩
          · exact ⟨k % len0, hmod, .inr ⟨rfl, .inl (by omega)⟩⟩
        clear hmod
        obtain ⟨p, hpl, main⟩ := main
        obtain ⟨x, cx, HX⟩ := TL.out p hpl
        have own0 := Lib.hid hown'
        clear hown'
        rcases main with ⟨hp, b1, o1, Z, HA, cp, HP⟩ | ⟨HP, hp | ⟨hp, b1, o1, z, HA, cp, hz⟩⟩
        · have ha := HA.out
          subst ha
          have e1 : (Z : Int) % (len0 : Int) = (p : Int) := by rw [← HP.out.1]; simp
          have e2 := HP.out.2
          go_wp2_with fail
          have hbA : Below wr.heap.size wr ((wr.alloc (.cells #[.int .u64 (U x)] 35)).alloc (.cells #[.int .u64 (U nn)] 35)) := ((Below.refl _ _).alloc (Nat.le_refl _) _).alloc (by simp) _
          refine (change_any (ofF mix zs) _ _ 1 1 1 1 [x] [nn] _ (sl_one (by simp [go_sem])) (sl_one (by simp [go_sem]))).mono ?_
          rintro e w5 ⟨rfl, hb5⟩
          rw [HX.out]
          have hb6 := hbA.trans (hb5.mono (by simp; omega))
          clear hb5 hbA
          have own5 := ownsRow_later own0.out hb6
          have hpz : p < zs.length := by have := HZ.out; omega
          have c5 := own5.cellAt p (by omega)
          rw [cells_get zs p hpz] at c5
          have f5 := own5.frozenAt p
          have st := (own5.stored p (.int .u64 (U nn))).1
          rw [cells_set] at st
          have hg := (own5.lt g rfl).1
          have hb7 := (hb'.trans (hb6.mono hb'.size)).setCell (p := ⟨g, p, none⟩) hg (.int .u64 (U nn))
          have HL' : Hid ((zs.set p nn).length = len0) := by
            show _ = _
            rw [List.length_set]; exact HZ.out
          clear own5 hb6
          go_wp2_with fail
          go_roundw
          case rel => exact ⟨k + 1, zs.set p nn, by omega, by go_num, rfl, HL', st, hb7⟩
          case measure => simp [intOf]; omega
        · have e1 : (k : Int) % (len0 : Int) = (p : Int) := by rw [← HP.out]; simp
          go_wp2_with fail
          have hbA : Below wr.heap.size wr ((wr.alloc (.cells #[.int .u64 (U x)] 35)).alloc (.cells #[.int .u64 (U nn)] 35)) := ((Below.refl _ _).alloc (Nat.le_refl _) _).alloc (by simp) _
          refine (change_any (ofF mix zs) _ _ 1 1 1 1 [x] [nn] _ (sl_one (by simp [go_sem])) (sl_one (by simp [go_sem]))).mono ?_
          rintro e w5 ⟨rfl, hb5⟩
          rw [HX.out]
          have hb6 := hbA.trans (hb5.mono (by simp; omega))
          clear hb5 hbA
          have own5 := ownsRow_later own0.out hb6
          have hpz : p < zs.length := by have := HZ.out; omega
          have c5 := own5.cellAt p (by omega)
          rw [cells_get zs p hpz] at c5
          have f5 := own5.frozenAt p
          have st := (own5.stored p (.int .u64 (U nn))).1
          rw [cells_set] at st
          have hg := (own5.lt g rfl).1
          have hb7 := (hb'.trans (hb6.mono hb'.size)).setCell (p := ⟨g, p, none⟩) hg (.int .u64 (U nn))
          have HL' : Hid ((zs.set p nn).length = len0) := by
            show _ = _
            rw [List.length_set]; exact HZ.out
          clear own5 hb6
          go_wp2_with fail
          go_roundw
          case rel => exact ⟨k + 1, zs.set p nn, by omega, by go_num, rfl, HL', st, hb7⟩
          case measure => simp [intOf]; omega
        · have ha := HA.out
          subst ha
          have e1 : (k : Int) % (len0 : Int) = (p : Int) := by rw [← HP.out]; simp
          go_wp2_with fail
          have hbA : Below wr.heap.size wr ((wr.alloc (.cells #[.int .u64 (U x)] 35)).alloc (.cells #[.int .u64 (U nn)] 35)) := ((Below.refl _ _).alloc (Nat.le_refl _) _).alloc (by simp) _
          refine (change_any (ofF mix zs) _ _ 1 1 1 1 [x] [nn] _ (sl_one (by simp [go_sem])) (sl_one (by simp [go_sem]))).mono ?_
          rintro e w5 ⟨rfl, hb5⟩
          rw [HX.out]
          have hb6 := hbA.trans (hb5.mono (by simp; omega))
          clear hb5 hbA
          have own5 := ownsRow_later own0.out hb6
          have hpz : p < zs.length := by have := HZ.out; omega
          have c5 := own5.cellAt p (by omega)
          rw [cells_get zs p hpz] at c5
          have f5 := own5.frozenAt p
          have st := (own5.stored p (.int .u64 (U nn))).1
          rw [cells_set] at st
          have hg := (own5.lt g rfl).1
          have hb7 := (hb'.trans (hb6.mono hb'.size)).setCell (p := ⟨g, p, none⟩) hg (.int .u64 (U nn))
          have HL' : Hid ((zs.set p nn).length = len0) := by
            show _ = _
            rw [List.length_set]; exact HZ.out
          clear own5 hb6
          go_wp2_with fail
          go_roundw
          case rel => exact ⟨k + 1, zs.set p nn, by omega, by go_num, rfl, HL', st, hb7⟩
          case measure => simp [intOf]; omega
      · have hkn : len2 = k := by omega
        subst hkn
        have hsl : Sl wr (some ⟨g, 0, none⟩) len0 zs := by
          refine ⟨HZ.out.symm, k0, .inr ⟨g, 0, rfl, fun i hi => ?_⟩⟩
          rw [Nat.zero_add, hown'.cellAt i (by have := HZ.out; omega), cells_get zs i hi]
        clear hown'
        go_wp2_with fail
        refine (of_any _ _ cap zs wr hsl).mono ?_
        rintro e w5 ⟨rfl, hb5⟩
        go_wp2_with fail
        go_ret
        exact ⟨ret_true (by simp), hb'.trans (hb5.mono hb'.size)⟩
end Go.Proofs.Ytnbelagjgmjehaa.Mark
