/-
  The walk of the law CrcBurst: for every text, place and bits it returns true; what was there stays.
-/
import Derived.Test.YtnbelagjgmjehaaCrcBurstM
set_option linter.unusedVariables false
namespace Go.Proofs.Ytnbelagjgmjehaa.Crc
open Go.RowKit Go.Proofs.Ytnbelagjgmjehaa.Bv

def cells (l : List UInt8) : List Value := l.map fun b => Value.int .u8 (b.toNat : Int)
theorem cells_get (l rest : List UInt8) (i : Nat) (h : i < l.length) : (cells (l ++ rest))[i]? = some (.int .u8 (l[i].toNat : Int)) := by
  unfold cells; simp [List.getElem?_append, h]
theorem cells_set (l rest : List UInt8) (i : Nat) (b : UInt8) (h : i < l.length) : (cells (l ++ rest)).set i (.int .u8 (b.toNat : Int)) = cells (l.set i b ++ rest) := by
  have e : Value.int .u8 (b.toNat : Int) = (fun b : UInt8 => Value.int .u8 (b.toNat : Int)) b := rfl
  unfold cells
  rw [e, ← List.map_set, List.set_append_left _ _ h]
theorem bytesRow_cells (s : ByteArray) (c : Nat) : bytesRow s c = (cells (s.data.toList ++ List.replicate (c - s.size) 0)).toArray := by
  unfold bytesRow cells
  apply Array.toList_inj.1
  simp

/-- What '[]byte(s)' leaves. -/
theorem bytes_of (w1 : World) (T : ByteArray) : ∃ C w2 L, (convert 9 22 (.string T)).run Try.prog w1 = .ok (.slice (some ⟨w1.heap.size, 0, none⟩) T.size C) w2 ∧ Below w1.heap.size w1 w2 ∧
    Blk w2 w1.heap.size (cells (T.data.toList ++ List.replicate (C - T.size) 0)) 5 (L, L + 1) ∧ T.size ≤ L := by
  refine ⟨grownCap w1 T.size 0 5, _, (bytesRow T (grownCap w1 T.size 0 5)).size, run_bytes_of_string (P := Try.prog) w1 9 22 5 T Try.underlying9 Try.underlying22 Try.underlying5, (Below.refl _ _).drew.alloc (Nat.le_refl _) _, ?_, ?_⟩
  · rw [bytesRow_cells]
    exact Blk.new w1.drew _ _ _
  · unfold bytesRow
    rw [Array.size_append, Array.size_map]
    exact Nat.le_add_right _ _

theorem bits_test (b : BitVec 32) (k : Nat) : (bits BinOp.and IntKind.u32 (U b / 2 ^ k) 1 == 1) = b.getLsbD k := by
  have h := b.isLt
  have e : U b / 2 ^ k = ((b.toNat / 2 ^ k : Nat) : Int) := by unfold U; rw [Int.natCast_ediv]; simp
  have hm := bits_mask .u32 32 (by decide) wraps_u32' 1 (by decide) (U b / 2 ^ k) (by rw [e]; exact Int.natCast_nonneg _) (by
    rw [e]
    have h2 : b.toNat / 2 ^ k ≤ b.toNat := Nat.div_le_self _ _
    omega)
  have hm' : bits BinOp.and IntKind.u32 (U b / 2 ^ k) 1 = (U b / 2 ^ k) % 2 := hm
  rw [hm', e]
  rw [BitVec.getLsbD, Nat.testBit, Nat.shiftRight_eq_div_pow]
  have h3 : b.toNat / 2 ^ k % 2 = 0 ∨ b.toNat / 2 ^ k % 2 = 1 := by omega
  rw [Nat.and_comm, Nat.and_one_is_mod]
  rcases h3 with h3 | h3
  · rw [h3]; have : ((b.toNat / 2 ^ k : Nat) : Int) % 2 = 0 := by omega
    rw [this]; rfl
  · rw [h3]; have : ((b.toNat / 2 ^ k : Nat) : Int) % 2 = 1 := by omega
    rw [this]; rfl

theorem shl_num : ∀ j : Fin 8, IntKind.u8.wrap ((2 : Int) ^ j.val) = ((bit8 j.val).toNat : Int) := by decide +kernel
theorem toggle_num (x : UInt8) (j : Nat) (hj : j < 8) : bits BinOp.xor IntKind.u8 (x.toNat : Int) (IntKind.u8.wrap ((2 : Int) ^ j)) = ((x ^^^ bit8 j).toNat : Int) := by
  have h1 := x.toNat_lt
  have h2 := (bit8 j).toNat_lt
  rw [shl_num ⟨j, hj⟩, u8_xor_nat _ _ (by omega) (by omega), ← UInt8.toNat_xor]

theorem open_u32 {x : Int} (h : (Lit.int .u32 x).wf = true) : ∃ s : BitVec 32, x = U s := by
  simp [Lit.wf, IntKind.min, IntKind.max, IntKind.signed, IntKind.bits] at h
  exact ⟨BitVec.ofInt 32 x, (U_of32 x (by omega) (by omega)).symm⟩
theorem open_i64 {x : Int} (h : (Lit.int .i64 x).wf = true) : -9223372036854775808 ≤ x ∧ x ≤ 9223372036854775807 := by
  simp [Lit.wf, IntKind.min, IntKind.max, IntKind.signed, IntKind.bits] at h
  omega

/-- What holds at each round. -/
structure Inv (T : ByteArray) (b : BitVec 32) (p N k : Nat) (t : List UInt8) : Prop where
  len : t.length = N
  low : ∀ j, j < k → b.getLsbD j = true → p + j < 8 * N
  sum : fold (~~~0#32) t = fold (~~~0#32) T.data.toList ^^^ steps (8 * N - p) (lowb b k)
theorem Inv.skip {T : ByteArray} {b : BitVec 32} {p N k : Nat} {t : List UInt8} (h : Inv T b p N k t) (hb : b.getLsbD k = false) : Inv T b p N (k + 1) t :=
  ⟨h.len, fun j hj hbj => by
    by_cases e : j = k
    · subst e; rw [hb] at hbj; cases hbj
    · exact h.low j (by omega) hbj, by rw [h.sum, lowb, hb]; simp⟩
theorem Inv.turn {T : ByteArray} {b : BitVec 32} {p N k : Nat} {t : List UInt8} (h : Inv T b p N k t) (hk : k < 32) (hb : b.getLsbD k = true) (hp : p + k < 8 * N) (hi : (p + k) / 8 < t.length) :
    Inv T b p N (k + 1) (t.set ((p + k) / 8) (t[(p + k) / 8] ^^^ bit8 ((p + k) % 8))) :=
  ⟨by rw [List.length_set]; exact h.len, fun j hj hbj => by
    by_cases e : j = k
    · subst e; exact hp
    · exact h.low j (by omega) hbj, by
    rw [fold_bit _ _ _ _ (Nat.mod_lt _ (by decide)) hi, h.sum, lowb, if_pos hb, steps_xor, pow_steps _ k hk (by omega), BitVec.xor_assoc]
    congr 2
    rw [h.len]
    congr 1
    omega⟩

set_option maxHeartbeats 1000000 in
set_option maxRecDepth 100000 in
theorem burst_walk (a0 : ByteArray) (a1 : Int) (a2 : Int) (w : World) (w0 : a0.size ≤ maxLen) (r0 : a0.size ≤ 140737488351232) (w1 : (Lit.int .i64 a1).wf = true) (w2 : (Lit.int .u32 a2).wf = true) :
    Calls Try.prog 12 #[.string a0, .int .i64 a1, .int .u32 a2] w fun e w' => e = .returned (.bool true) ∧ Below w.heap.size w w' := by
  obtain ⟨b, rfl⟩ := open_u32 w2
  have b1 := open_i64 w1
  clear w0 w1 w2
  have hT := sealS_size a0
  obtain ⟨T, HT⟩ : ∃ T, Hid (T = sealS a0) := ⟨_, Lib.hid rfl⟩
  rw [← HT.out] at hT
  obtain ⟨N, HN⟩ : ∃ N, Hid (N = T.size) := ⟨_, Lib.hid rfl⟩
  have hN : N ≤ 140737488351236 := by rw [HN.out]; omega
  have hN4 : 4 ≤ N := by rw [HN.out]; omega
  clear hT
  go_enter Try.func12, Try.ntmps12
  go_wp2_with fail
  refine (seal_any a0 (by omega) _).mono ?_
  rintro e w1 ⟨rfl, hb1⟩
  rw [← HT.out]
  obtain ⟨C, w2, L, hcv, hbA, hblk, hL⟩ := bytes_of w1 T
  have hb2 := hb1.trans (hbA.mono hb1.size)
  have hB := hb1.size
  generalize w1.heap.size = B at *
  rw [← HN.out] at hcv hL
  obtain ⟨R, HR⟩ : ∃ R : List UInt8, Hid (R = List.replicate (C - T.size) 0) := ⟨_, Lib.hid rfl⟩
  rw [← HR.out] at hblk
  clear hb1 hbA
  by_cases c1 : a1 < 0
  · have HBK := Lib.hid hblk
    clear hblk
    go_wp2_with fail
    refine (lives_any _).mono ?_
    rintro e w3 ⟨rfl, rfl⟩
    go_wp2_with fail
    refine (lives_any _).mono ?_
    rintro e w3 ⟨rfl, rfl⟩
    go_wp2_with fail
    go_ret
    exact ⟨rfl, hb2⟩
  by_cases c2 : 8 * (N : Int) ≤ a1
  · have HBK := Lib.hid hblk
    clear hblk
    go_wp2_with fail
    refine (lives_any _).mono ?_
    rintro e w3 ⟨rfl, rfl⟩
    go_wp2_with fail
    refine (lives_any _).mono ?_
    rintro e w3 ⟨rfl, rfl⟩
    go_wp2_with fail
    go_ret
    exact ⟨rfl, hb2⟩
  by_cases c3 : b = 0#32
  · have HBK := Lib.hid hblk
    have e0 : (U b == 0) = true := by rw [c3]; rfl
    clear hblk c3
    go_wp2_with fail
    refine (lives_any _).mono ?_
    rintro e w3 ⟨rfl, rfl⟩
    go_wp2_with fail
    refine (lives_any _).mono ?_
    rintro e w3 ⟨rfl, rfl⟩
    go_wp2_with fail
    go_ret
    exact ⟨rfl, hb2⟩
  have e0 : (U b == 0) = false := by
    rw [beq_eq_false_iff_ne]
    intro h
    exact c3 (U_inj (h.trans (by decide +kernel)))
  have C3 := Lib.hid c3
  clear c3
  obtain ⟨p, rfl⟩ := Int.eq_ofNat_of_zero_le (show 0 ≤ a1 by omega)
  have hp : p < 8 * N := by omega
  go_wp2_with fail
  refine (lives_any _).mono ?_
  rintro e w3 ⟨rfl, rfl⟩
  go_wp2_with fail
  go_loopw [32] (fun i wr => ∃ (k : Nat) (t : List UInt8), k ≤ 32 ∧ i = .int .i64 k ∧ Inv T b p N k t ∧ Blk wr B (cells (t ++ R)) 5 (L, L + 1) ∧ Below w.heap.size w wr) (fun i _ => 32 - (intOf i).toNat)
  case atStart =>
    refine ⟨0, T.data.toList, by decide, rfl, ⟨by rw [HN.out]; simp, fun j hj => absurd hj (by omega), ?_⟩, hblk, hb2⟩
    rw [lowb, steps_zero, BitVec.xor_zero]
  case round =>
    obtain ⟨k, t, hk, rfl, hinv, hblk', hb'⟩ := hrel
    clear hblk hb2
    by_cases hlt : k < 32
    · have hbt := bits_test b k
      cases hbk : b.getLsbD k with
      | false =>
        rw [hbk] at hbt
        have hinv' := hinv.skip hbk
        clear hbk hinv
        go_wp2_with fail
        go_roundw
        case rel => exact ⟨k + 1, t, by omega, by go_num, hinv', hblk', hb'⟩
        case measure => simp [intOf]; omega
      | true =>
        rw [hbk] at hbt
        by_cases hin : p + k < 8 * N
        · have hi : (p + k) / 8 < t.length := by rw [hinv.len]; omega
          have hinv' := hinv.turn hlt hbk hin hi
          obtain ⟨i, HI⟩ : ∃ i, Hid ((p + k) / 8 = i) := ⟨_, Lib.hid rfl⟩
          obtain ⟨j, HJ⟩ : ∃ j, Hid ((p + k) % 8 = j) := ⟨_, Lib.hid rfl⟩
          have q1 : ((p : Int) + (k : Int)) / 8 = (i : Int) := by rw [← HI.out]; omega
          have q2 : ((p : Int) + (k : Int)) % 8 = (j : Int) := by rw [← HJ.out]; omega
          simp only [HI.out, HJ.out] at hinv' hi
          have hj : j < 8 := by rw [← HJ.out]; exact Nat.mod_lt _ (by decide)
          have htl := hinv.len
          have hiN : i < N := by omega
          have hc := hblk'.cell i
          rw [cells_get t R i hi] at hc
          have hf := hblk'.free i (.inl (by omega))
          have hx := toggle_num t[i] j hj
          rw [IntKind.wrap_u8] at hx
          have hs := hblk'.set i (.int .u8 ((t[i] ^^^ bit8 j).toNat : Int))
          rw [cells_set t R i _ hi] at hs
          have hb3 := hb'.setCell (p := ⟨B, i, none⟩) hB (.int .u8 ((t[i] ^^^ bit8 j).toNat : Int))
          generalize (t[i] ^^^ bit8 j) = y at *
          generalize t[i] = x at *
          have hs2 := hs.drew
          have hb4 := hb3.drew
          have HINV := Lib.hid hinv'
          have hin' : (p : Int) + (k : Int) < 8 * (N : Int) := by omega
          clear hs hb3 hblk' hinv hinv' hbk htl hi
          go_wp2_with fail
          go_region
          go_wp2_with fail
          go_roundw
          case rel => exact ⟨k + 1, t.set i y, by omega, by go_num, HINV.out, hs2, hb4⟩
          case measure => simp [intOf]; omega
        · have hin' : 8 * (N : Int) ≤ (p : Int) + (k : Int) := by omega
          have HB := Lib.hid hblk'
          have HI := Lib.hid hinv
          clear hblk' hinv hbk
          go_wp2_with fail
          go_ret
          exact ⟨rfl, hb'⟩
    · have hk32 : 32 = k := by omega
      subst hk32
      have htl := hinv.len
      have hcv2 : (convert 22 9 (.slice (some ⟨B, 0, none⟩) N C)).run Try.prog wr = .ok (.string ⟨t.toArray⟩) wr := by
        rw [← htl]
        refine run_convert_bytes_back (P := Try.prog) wr 22 9 5 ⟨B, 0, none⟩ C t Try.underlying22 Try.underlying5 Try.underlying9 ?_
        intro j hj
        rw [add0, hblk'.cell j, cells_get t R j hj]
      have hsz : (⟨t.toArray⟩ : ByteArray).size = N := by
        show t.toArray.size = N
        rw [List.size_toArray]; exact htl
      have hop : openS ⟨t.toArray⟩ = (⟨#[]⟩, 5) := by
        have hs := hinv.sum
        rw [lowb_all, HT.out] at hs
        exact open_turned a0 ⟨t.toArray⟩ _ (fun h => C3.out (steps_eq_zero h)) (by omega) hs
      have hsz2 : (⟨t.toArray⟩ : ByteArray).size ≤ 9223372036854775800 := by omega
      have HO := Lib.hid hop
      have HZ := Lib.hid hsz2
      clear hblk' hinv hop hsz hsz2 htl
      go_wp2_with fail
      refine (open_is HO.out HZ.out _).mono ?_
      rintro e w5 ⟨rfl, hb5⟩
      go_wp2_with fail
      go_ret
      exact ⟨rfl, hb'.trans (hb5.mono hb'.size)⟩
end Go.Proofs.Ytnbelagjgmjehaa.Crc
