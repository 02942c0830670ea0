/-
  The walks of crc.Join and its matrix: so many noughts behind a sum, by squaring; for every word and count.
-/
import Derived.Test.YtnbelagjgmjehaaCrcBurstM
set_option linter.unusedVariables false
namespace Go.Proofs.Ytnbelagjgmjehaa.Crc
open Go.RowKit Go.Proofs.Ytnbelagjgmjehaa.Bv

/-- What so many steps do with each bit. -/
def rowOf (e : Nat) : List Value := (List.range 32).map fun i => Value.int .u32 (U (steps e (1#32 <<< i)))
theorem rowOf_len (e : Nat) : (rowOf e).length = 32 := by simp [rowOf]
theorem rowOf_get (e i : Nat) (h : i < 32) : (rowOf e)[i]? = some (.int .u32 (U (steps e (1#32 <<< i)))) := by simp [rowOf, h]
theorem rowOf_one (e : Nat) : (rowOf e).toArray.all (·.oneCell') = true := by
  rw [Array.all_eq_true_iff_forall_mem]
  intro v hv
  simp [rowOf] at hv
  obtain ⟨i, _, rfl⟩ := hv
  rfl
/-- .. as far as it is filled. -/
def partOf (e k : Nat) : List Value := (List.range 32).map fun i => if i < k then Value.int .u32 (U (steps e (1#32 <<< i))) else Value.int .u32 0
theorem partOf_len (e k : Nat) : (partOf e k).length = 32 := by simp [partOf]
theorem partOf_get (e k i : Nat) (h : i < 32) (hk : k ≤ i) : (partOf e k)[i]? = some (.int .u32 0) := by
  simp [partOf, h]; omega
theorem partOf_set (e k : Nat) (h : k < 32) : (partOf e k).set k (.int .u32 (U (steps e (1#32 <<< k)))) = partOf e (k + 1) := by
  unfold partOf
  apply List.ext_getElem
  · simp
  · intro i h1 h2
    rw [List.getElem_set]
    simp only [List.getElem_map, List.getElem_range]
    by_cases hi : k = i
    · subst hi; simp
    · by_cases h3 : i < k
      · simp [hi, h3, show i < k + 1 by omega]
      · simp [hi, h3, show ¬ i < k + 1 by omega]
theorem partOf_all (e : Nat) : partOf e 32 = rowOf e := by
  unfold partOf rowOf
  apply List.map_congr_left
  intro i hi
  rw [if_pos (List.mem_range.1 hi)]

theorem low_end (n : BitVec 32) (k : Nat) (hk : k ≤ 32) (h : n >>> k = 0#32) : lowb n k = n := by
  apply BitVec.eq_of_getLsbD_eq
  intro i hi
  rw [lowb_get n k i hi]
  by_cases hik : i < k
  · simp [hik]
  · have h2 := congrArg (fun x : BitVec 32 => x.getLsbD (i - k)) h
    simp only [BitVec.getLsbD_ushiftRight, BitVec.getLsbD_zero, show k + (i - k) = i by omega] at h2
    simp [hik, h2]
theorem shr_big (n : BitVec 32) : n >>> 32 = 0#32 := by
  apply BitVec.eq_of_getLsbD_eq
  intro i hi
  rw [BitVec.getLsbD_ushiftRight, BitVec.getLsbD_of_ge n (32 + i) (by omega)]
  simp
theorem add_num (e : Nat) (n : BitVec 32) (k : Nat) : bits BinOp.xor IntKind.u32 (U (steps e (lowb n k))) (bits BinOp.and IntKind.u32 (U (steps e (1#32 <<< k))) (-bits BinOp.and IntKind.u32 (U (n >>> k)) 1 % 4294967296)) = U (steps e (lowb n (k + 1))) := by
  refine eq32 (bits32_nonneg _ _ _) (bits32_lt _ _ _) ?_
  rw [of_xor32, of_and32, of_emod32, of_neg, of_and32, of_U, of_U, of_U]
  have hs : -(n >>> k &&& BitVec.ofInt 32 1) = if n.getLsbD k then BitVec.allOnes 32 else 0#32 := by
    have h := spread (n >>> k)
    rw [BitVec.getLsbD_ushiftRight, Nat.add_zero] at h
    exact h
  rw [hs, lowb]
  cases n.getLsbD k
  · simp
  · rw [if_pos rfl, if_pos rfl, BitVec.and_allOnes, steps_xor]
theorem shr_num (n : BitVec 32) (k : Nat) : U (n >>> k) / 2 = U (n >>> (k + 1)) := by
  have h := of_shr (n := 32) (U (n >>> k)) 1 (U_nonneg _) (by have := U32_lt (n >>> k); omega)
  rw [of_U, ← BitVec.shiftRight_add] at h
  rw [← h]
  refine (U_of32 _ ?_ ?_).symm
  · have := U_nonneg (n >>> k); omega
  · have := U32_lt (n >>> k); have := U_nonneg (n >>> k); omega

theorem times_any (B e : Nat) (n : BitVec 32) (w : World) (hc : ∀ i, i < 32 → w.cell? ⟨B, i, none⟩ = some (.int .u32 (U (steps e (1#32 <<< i))))) :
    Calls Try.prog 40 #[.pointer (some ⟨B, 0, none⟩), .int .u32 (U n)] w fun e' w' => e' = .returned (.int .u32 (U (steps e n))) ∧ w = w' := by
  have HC := Lib.hid hc
  clear hc
  go_enter Try.func40, Try.ntmps40
  go_wp2_with fail
  go_loop [1, 5, 6] (fun v o i => ∃ k : Nat, k ≤ 32 ∧ i = .int .i64 k ∧ v = .int .u32 (U (n >>> k)) ∧ o = .int .u32 (U (steps e (lowb n k)))) (fun _ _ i => 32 - (intOf i).toNat)
  case atStart => exact ⟨0, by decide, rfl, by rw [BitVec.ushiftRight_zero], by rw [lowb, steps_zero]; rfl⟩
  case round =>
    obtain ⟨k, hk, rfl, rfl, rfl⟩ := hrel
    by_cases h0 : n >>> k = 0#32
    · have hb : (U (n >>> k) != 0) = false := by rw [h0]; decide
      have hl := low_end n k hk h0
      have HL := Lib.hid hl
      clear h0 hl
      go_wp2_with fail
      go_ret
      exact ⟨ret_u32 (by rw [HL.out]), rfl⟩
    · have hb : (U (n >>> k) != 0) = true := by
        rw [bne_iff_ne]
        intro h
        exact h0 (U_inj (h.trans (by decide)))
      have hk32 : k < 32 := by
        apply Nat.lt_of_not_le
        intro hle
        have : k = 32 := by omega
        subst this
        exact h0 (shr_big n)
      have hck := HC.out k hk32
      have HA := Lib.hid (add_num e n k)
      have HS := Lib.hid (shr_num n k)
      clear h0
      go_wp2_with fail
      go_round
      case rel => exact ⟨k + 1, by omega, by go_num, by rw [HS.out], by rw [HA.out]⟩
      case measure => simp [intOf]; omega

theorem squared_any (B e : Nat) (w : World) (hc : ∀ i, i < 32 → w.cell? ⟨B, i, none⟩ = some (.int .u32 (U (steps e (1#32 <<< i))))) :
    Calls Try.prog 41 #[.pointer (some ⟨B, 0, none⟩)] w fun e' w' => e' = .returned (.agg (rowOf (e + e)).toArray) ∧ Below w.heap.size w w' := by
  have HC := Lib.hid hc
  clear hc
  go_enter Try.func41, Try.ntmps41
  go_wp2_with fail
  go_loopw [5] (fun i wr => ∃ k : Nat, k ≤ 32 ∧ i = .int .i64 k ∧ Blk wr w.heap.size (List.replicate 32 (.int .u32 0)) 63 (0, 0) ∧ Blk wr (w.heap.size + 1) (partOf (e + e) k) 63 (0, 0) ∧ Below w.heap.size w wr) (fun i _ => 32 - (intOf i).toNat)
  case atStart => exact ⟨0, by decide, rfl, heap_alloc2_old _ _ _, heap_alloc2_new _ _ _, ((Below.refl _ _).alloc (Nat.le_refl _) _).alloc (by simp) _⟩
  case round =>
    obtain ⟨k, hk, rfl, hz, hp, hb⟩ := hrel
    by_cases hlt : k < 32
    · have hck := cell_below hb (HC.out k hlt) (World.block_lt_of_cell? w _ (HC.out k hlt))
      have hcw : ∀ i, i < 32 → wr.cell? ⟨B, i, none⟩ = some (.int .u32 (U (steps e (1#32 <<< i)))) := fun i hi => cell_below hb (HC.out i hi) (World.block_lt_of_cell? w _ (HC.out i hi))
      have HW := Lib.hid hcw
      have c2 := hp.cell k
      rw [partOf_get _ k k hlt (Nat.le_refl _)] at c2
      have f2 := hp.free k (.inr (Nat.zero_le _))
      have e2 : steps e (steps e (1#32 <<< k)) = steps (e + e) (1#32 <<< k) := (steps_add e e _).symm
      have hp2 := hp.set k (.int .u32 (U (steps (e + e) (1#32 <<< k))))
      rw [partOf_set _ k hlt] at hp2
      have hz2 := hz.other (g' := w.heap.size + 1) (by omega) k (.int .u32 (U (steps (e + e) (1#32 <<< k))))
      have hb2 := hb.setCell (p := ⟨w.heap.size + 1, k, none⟩) (Nat.le_succ _) (.int .u32 (U (steps (e + e) (1#32 <<< k))))
      have E2 := Lib.hid e2
      clear hcw hp hz hb e2
      go_wp2_with fail
      refine (times_any B e _ _ HW.out).mono ?_
      rintro e' w' ⟨rfl, rfl⟩
      rw [E2.out]
      go_wp2_with fail
      go_roundw
      case rel => exact ⟨k + 1, by omega, by go_num, hz2, hp2, hb2⟩
      case measure => simp [intOf]; omega
    · have hk32 : k = 32 := by omega
      subst hk32
      rw [partOf_all] at hp
      have hi63 : (Try.prog.info? 63).map (·.size) = some (rowOf (e + e)).toArray.size := by
        rw [List.size_toArray, rowOf_len]; kernel_rfl
      have ho : (List.replicate 32 (Value.int .u32 0)).toArray.size = (rowOf (e + e)).toArray.size := by simp [rowOf_len]
      have h1 := rowOf_one (e + e)
      have hz2 := hz.setRow (rowOf (e + e))
      have hb2 := below_setRow hb (Nat.le_refl _) (rowOf (e + e)).toArray
      have H63 := Lib.hid hi63
      have HO := Lib.hid ho
      have HP := Lib.hid hp
      have HZ := Lib.hid hz
      have H1 := Lib.hid h1
      clear hi63 ho hp hz hb h1
      go_wp2_with (first | (refine wpList_load_row rfl 63 _ rfl (w.heap.size + 1) rfl 63 _ (0, 0) _ HP.out Try.underlying63 rfl H63.out ?_) | (refine wpList_store_row rfl 63 _ _ rfl w.heap.size (rowOf (e + e)).toArray rfl rfl 63 _ HZ.out H63.out HO.out H1.out ?_))
      exact bodyPost_ret (results_cell_row rfl _ _ w.heap.size 63 _ (0, 0) _ rfl hz2 Try.underlying63 rfl H63.out) rfl ⟨rfl, hb2⟩

theorem one_shl : ∀ k : Fin 32, ((2 : Int) ^ k.val) % 4294967296 = U (1#32 <<< k.val) := by decide +kernel
theorem ret_ue {a b : Int} {k : Int} (h : a = b) : Ending.returned (.tuple #[.int .u32 a, .int .i64 k]) = .returned (.tuple #[.int .u32 b, .int .i64 k]) := by rw [h]

/-- What has been done of a count, and what is left. -/
def Left (n m k r : Nat) (a0 a : BitVec 32) : Prop := n = m + 2 ^ k * r ∧ a = steps (8 * m) a0
theorem Left.one {n m k r : Nat} {a0 a : BitVec 32} (h : Left n m k r a0 a) (hr : r % 2 = 1) : Left n (m + 2 ^ k) (k + 1) (r / 2) a0 (steps (8 * 2 ^ k) a) := by
  obtain ⟨h1, h2⟩ := h
  refine ⟨?_, by rw [h2, ← steps_add]; congr 1; omega⟩
  have h3 := Nat.div_add_mod r 2
  rw [hr] at h3
  rw [Nat.pow_succ, Nat.mul_assoc]
  generalize r / 2 = q at *
  subst h3
  rw [h1, Nat.mul_add, Nat.mul_one]
  omega
theorem Left.nil {n m k r : Nat} {a0 a : BitVec 32} (h : Left n m k r a0 a) (hr : ¬ r % 2 = 1) : Left n m (k + 1) (r / 2) a0 a := by
  refine ⟨?_, h.2⟩
  have h1 := h.1
  have h2 := Nat.div_add_mod r 2
  have h3 : r % 2 = 0 := by omega
  rw [h3] at h2
  rw [Nat.pow_succ, Nat.mul_assoc]
  generalize r / 2 = q at *
  subst h2
  exact h1

set_option maxRecDepth 100000 in
set_option maxHeartbeats 1000000 in
theorem join_any (a b : BitVec 32) (n : Nat) (hn : n ≤ 2147483647) (x : Int) (hx : x = n) (w : World) :
    Calls Try.prog 36 #[.int .u32 (U a), .int .u32 (U b), .int .i64 x] w fun e w' => e = .returned (.tuple #[.int .u32 (U (steps (8 * n) a ^^^ b)), .int .i64 0]) ∧ Below w.heap.size w w' := by
  subst hx
  go_enter Try.func36, Try.ntmps36
  go_wp2_with fail
  have HN := Lib.hid hn
  go_loopw [16] (fun i wr => ∃ k : Nat, k ≤ 32 ∧ i = .int .i64 k ∧ Blk wr w.heap.size (partOf 8 k) 63 (0, 0) ∧ Below w.heap.size w wr) (fun i _ => 32 - (intOf i).toNat)
  case atStart => exact ⟨0, by decide, rfl, heap_alloc_new _ _, (Below.refl _ _).alloc (Nat.le_refl _) _⟩
  case round =>
    obtain ⟨k, hk, rfl, hp, hb⟩ := hrel
    by_cases hlt : k < 32
    · have h1 := one_shl ⟨k, hlt⟩
      simp only at h1
      have c2 := hp.cell k
      rw [partOf_get _ k k hlt (Nat.le_refl _)] at c2
      have f2 := hp.free k (.inr (Nat.zero_le _))
      have hp2 := hp.set k (.int .u32 (U (steps 8 (1#32 <<< k))))
      rw [partOf_set _ k hlt] at hp2
      have hb2 := hb.setCell (p := ⟨w.heap.size, k, none⟩) (Nat.le_refl _) (.int .u32 (U (steps 8 (1#32 <<< k))))
      have ht : take (1#32 <<< k) 0 = steps 8 (1#32 <<< k) := by
        unfold take
        congr 1
        exact BitVec.xor_zero
      have HT := Lib.hid ht
      clear hp hb ht
      go_wp2_with fail
      refine (take_any (1#32 <<< k) 0 _ _ rfl rfl _).mono ?_
      rintro e' w' ⟨rfl, rfl⟩
      rw [HT.out]
      go_wp2_with fail
      go_roundw
      case rel => exact ⟨k + 1, by omega, by go_num, hp2, hb2⟩
      case measure => simp [intOf]; omega
    · have hk32 : k = 32 := by omega
      subst hk32
      rw [partOf_all] at hp
      go_wp2_with fail
      go_loopw [0, 2] (fun va vn ws => ∃ (m q r : Nat) (c : BitVec 32), va = .int .u32 (U c) ∧ vn = .int .i64 (r : Int) ∧ r ≤ 2147483647 ∧ Left n m q r a c ∧ Blk ws w.heap.size (rowOf (8 * 2 ^ q)) 63 (0, 0) ∧ Below w.heap.size w ws) (fun _ vn _ => (intOf vn).toNat)
      case atStart => exact ⟨0, 0, n, a, rfl, rfl, hn, ⟨by omega, rfl⟩, hp, hb⟩
      case round =>
        obtain ⟨m, q, r, c, rfl, rfl, hr, hl, hB, hb'⟩ := hrel
        clear hp hb
        by_cases h0 : 0 < r
        · have hcw : ∀ i, i < 32 → wr.cell? ⟨w.heap.size, i, none⟩ = some (.int .u32 (U (steps (8 * 2 ^ q) (1#32 <<< i)))) := fun i hi => by rw [hB.cell i, rowOf_get _ i hi]
          have HCW := Lib.hid hcw
          have hi63 : (Try.prog.info? 63).map (·.size) = some (rowOf (8 * 2 ^ q + 8 * 2 ^ q)).toArray.size := by
            rw [List.size_toArray, rowOf_len]; kernel_rfl
          have H63 := Lib.hid hi63
          have HO := Lib.hid (show (rowOf (8 * 2 ^ q)).toArray.size = (rowOf (8 * 2 ^ q + 8 * 2 ^ q)).toArray.size by simp [rowOf_len])
          have H1 := Lib.hid (rowOf_one (8 * 2 ^ q + 8 * 2 ^ q))
          have HE := Lib.hid (show 8 * 2 ^ q + 8 * 2 ^ q = 8 * 2 ^ (q + 1) by rw [Nat.pow_succ]; omega)
          clear hcw hi63
          by_cases hodd : r % 2 = 1
          · have ht : (bits BinOp.and IntKind.i64 (r : Int) 1 == 1) = true := by rw [and1_i64 r (by omega), hodd]; rfl
            have hl2 := hl.one hodd
            have HL := Lib.hid hl2
            clear hl hl2 hodd
            go_wp2_with fail
            refine (times_any w.heap.size (8 * 2 ^ q) c _ HCW.out).mono ?_
            rintro e' w' ⟨rfl, rfl⟩
            go_wp2_with fail
            refine (squared_any w.heap.size (8 * 2 ^ q) _ HCW.out).mono ?_
            rintro e' w' ⟨rfl, hb3⟩
            have hB2 := hB.later hb3
            have hB3 := hB2.setRow (rowOf (8 * 2 ^ q + 8 * 2 ^ q))
            have hb4 := below_setRow (hb'.trans (hb3.mono hb'.size)) (Nat.le_refl _) (rowOf (8 * 2 ^ q + 8 * 2 ^ q)).toArray
            have HB2 := Lib.hid hB2
            have hB3 : Blk (w'.setRow w.heap.size (rowOf (8 * 2 ^ q + 8 * 2 ^ q)).toArray) w.heap.size (rowOf (8 * 2 ^ (q + 1))) 63 (0, 0) := by rw [← HE.out]; exact hB3
            clear hB hB2 hb' hb3
            go_wp2_with (refine wpList_store_row rfl 63 _ _ rfl w.heap.size (rowOf (8 * 2 ^ q + 8 * 2 ^ q)).toArray rfl rfl 63 _ HB2.out H63.out HO.out H1.out ?_)
            go_roundw
            case rel =>
              have fin : ∃ (m' q' r' : Nat) (c' : BitVec 32), Value.int .u32 (U (steps (8 * 2 ^ q) c)) = .int .u32 (U c') ∧ Value.int .i64 ((r : Int) / 2) = .int .i64 (r' : Int) ∧ r' ≤ 2147483647 ∧ Left n m' q' r' a c' ∧ Blk _ w.heap.size (rowOf (8 * 2 ^ q')) 63 (0, 0) ∧ Below w.heap.size w _ := ⟨m + 2 ^ q, q + 1, r / 2, steps (8 * 2 ^ q) c, rfl, by go_num, by omega, HL.out, hB3, hb4⟩
              first | exact fin | ((repeat apply Exists.intro); exact ⟨fin, rfl⟩)
            case measure => simp [intOf]; omega
          · have ht : (bits BinOp.and IntKind.i64 (r : Int) 1 == 1) = false := by
              rw [and1_i64 r (by omega), beq_eq_false_iff_ne]; omega
            have hl2 := hl.nil hodd
            have HL := Lib.hid hl2
            clear hl hl2 hodd
            go_wp2_with fail
            refine (squared_any w.heap.size (8 * 2 ^ q) _ HCW.out).mono ?_
            rintro e' w' ⟨rfl, hb3⟩
            have hB2 := hB.later hb3
            have hB3 := hB2.setRow (rowOf (8 * 2 ^ q + 8 * 2 ^ q))
            have hb4 := below_setRow (hb'.trans (hb3.mono hb'.size)) (Nat.le_refl _) (rowOf (8 * 2 ^ q + 8 * 2 ^ q)).toArray
            have HB2 := Lib.hid hB2
            have hB3 : Blk (w'.setRow w.heap.size (rowOf (8 * 2 ^ q + 8 * 2 ^ q)).toArray) w.heap.size (rowOf (8 * 2 ^ (q + 1))) 63 (0, 0) := by rw [← HE.out]; exact hB3
            clear hB hB2 hb' hb3
            go_wp2_with (refine wpList_store_row rfl 63 _ _ rfl w.heap.size (rowOf (8 * 2 ^ q + 8 * 2 ^ q)).toArray rfl rfl 63 _ HB2.out H63.out HO.out H1.out ?_)
            go_roundw
            case rel =>
              have fin : ∃ (m' q' r' : Nat) (c' : BitVec 32), Value.int .u32 (U c) = .int .u32 (U c') ∧ Value.int .i64 ((r : Int) / 2) = .int .i64 (r' : Int) ∧ r' ≤ 2147483647 ∧ Left n m' q' r' a c' ∧ Blk _ w.heap.size (rowOf (8 * 2 ^ q')) 63 (0, 0) ∧ Below w.heap.size w _ := ⟨m, q + 1, r / 2, c, rfl, by go_num, by omega, HL.out, hB3, hb4⟩
              first | exact fin | ((repeat apply Exists.intro); exact ⟨fin, rfl⟩)
            case measure => simp [intOf]; omega
        · have hr0 : r = 0 := by omega
          subst hr0
          obtain ⟨l1, l2⟩ := hl
          have hnm : n = m := by omega
          have HM := Lib.hid hnm
          have HL := Lib.hid l2
          clear l1 l2 h0 hnm
          go_wp2_with fail
          go_ret2
          exact ⟨ret_ue (by rw [HM.out, ← HL.out]; refine eq32 (bits32_nonneg _ _ _) (bits32_lt _ _ _) ?_; rw [of_xor32, of_U, of_U]), hb'⟩
end Go.Proofs.Ytnbelagjgmjehaa.Crc
