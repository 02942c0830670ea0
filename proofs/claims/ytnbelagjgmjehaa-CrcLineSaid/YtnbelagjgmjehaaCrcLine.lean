/-
  The walk of the law CrcLine: for all three texts it returns true; what was there stays.
-/
import Derived.Test.YtnbelagjgmjehaaCrcW
set_option linter.unusedVariables false
namespace Go.Proofs.Ytnbelagjgmjehaa.Crc
open Go.RowKit Go.Proofs.Ytnbelagjgmjehaa.Bv

theorem info5 : (Try.prog.info? 5).map (fun i => (i.zero, i.size, i.bytes)) = some (some (.int .u8 0), 1, 1) := by kernel_rfl

def cellsOf (X : List UInt8) (n k : Nat) : List Value := (X.take k ++ List.replicate (n - k) 0).map fun b : UInt8 => Value.int .u8 (b.toNat : Int)
theorem cells_at (X : List UInt8) (n k : Nat) (hX : X.length = n) (h : k < n) : (cellsOf X n k)[k]? = some (.int .u8 0) := by
  unfold cellsOf
  rw [List.getElem?_map, List.getElem?_append_right (by simp; omega), List.getElem?_replicate]
  simp [hX]; omega
theorem cells_set (X : List UInt8) (n k : Nat) (hX : X.length = n) (h : k < n) : (cellsOf X n k).set k (.int .u8 (X[k].toNat : Int)) = cellsOf X n (k + 1) := by
  unfold cellsOf
  have hm : ((fun b : UInt8 => (Value.int .u8 (b.toNat : Int))) X[k]) = Value.int .u8 (X[k].toNat : Int) := rfl
  rw [← hm, ← List.map_set]
  congr 1
  rw [List.set_append_right _ _ (by simp; omega), List.length_take, show k - min k X.length = 0 by omega, List.take_succ_eq_append_getElem (by omega)]
  obtain ⟨m, hm⟩ : ∃ m, n - k = m + 1 := ⟨n - k - 1, by omega⟩
  rw [hm, show n - (k + 1) = m by omega, List.replicate_succ, List.set_cons_zero, List.append_assoc]
  rfl

theorem xor_num (a b c : UInt8) : bits BinOp.xor IntKind.u8 (bits BinOp.xor IntKind.u8 (a.toNat : Int) (b.toNat : Int)) (c.toNat : Int) = ((a ^^^ b ^^^ c).toNat : Int) := by
  have h1 := a.toNat_lt
  have h2 := b.toNat_lt
  have h3 := c.toNat_lt
  have h4 := (a ^^^ b).toNat_lt
  rw [u8_xor_nat _ _ (by omega) (by omega), ← UInt8.toNat_xor, u8_xor_nat _ _ (by omega) (by omega), ← UInt8.toNat_xor]

theorem line_walk (a0 : ByteArray) (a1 : ByteArray) (a2 : ByteArray) (w : World) (w0 : a0.size ≤ maxLen) (r0 : a0.size ≤ 140737488351232) (w1 : a1.size ≤ maxLen) (r1 : a1.size ≤ 140737488351232) (w2 : a2.size ≤ maxLen) (r2 : a2.size ≤ 140737488351232) :
    Calls Try.prog 3 #[.string a0, .string a1, .string a2] w fun e w' => e = .returned (.bool true) ∧ Below w.heap.size w w' := by
  clear w0 w1 w2
  obtain ⟨i0, hi, hz0, hz1, hz2⟩ := info_parts info5
  obtain ⟨n, hmin, hn0, hn1, hn2⟩ : ∃ n : Nat, (∀ w : World, (Builtin.min_ #[3, 3, 3] 3 #[.int .i64 (a0.size : Int), .int .i64 (a1.size : Int), .int .i64 (a2.size : Int)]).run Try.prog w = .ok (.int .i64 (n : Int)) w) ∧ n ≤ a0.size ∧ n ≤ a1.size ∧ n ≤ a2.size := by
    refine ⟨min a2.size (min a1.size a0.size), fun w => ?_, by omega, by omega, by omega⟩
    rw [run_min_int3]
    congr 3
    split <;> split <;> omega
  obtain ⟨X, HX⟩ : ∃ X : List UInt8, Hid (X = List.zipWith (· ^^^ ·) (List.zipWith (· ^^^ ·) (a0.data.toList.take n) (a1.data.toList.take n)) (a2.data.toList.take n)) := ⟨_, rfl⟩
  have hX : X.length = n := by
    have e0 : a0.data.size = a0.size := rfl
    have e1 : a1.data.size = a1.size := rfl
    have e2 : a2.data.size = a2.size := rfl
    rw [HX.out]; simp; omega
  have HL := Lib.hid hX
  clear hX
  go_enter Try.func3, Try.ntmps3
  go_wp2_with (at_make; refine wpList_make_full _ rfl _ _ 22 rfl w.heap.size 5 i0 (.int .u8 0) 1 Try.underlying22 hi hz0 hz1 .i64 .i64 _ _ n rfl rfl rfl rfl ?c1 ?c2 ?c3 ?_)
  case c1 => first | omega | (rw [hz2]; omega)
  case c2 => unfold maxLen; omega
  intro w1 hown hgrow
  have hb := (Below.refl w.heap.size w).grown hgrow (Nat.le_refl _) (by intro k hk; cases hk)
  clear hgrow hmin
  go_wp2
  go_loopw [21] (fun i wr => ∃ k : Nat, k ≤ n ∧ i = .int .i64 k ∧ wr.ownsRow w.heap.size 5 1 (.slice (some ⟨w.heap.size, 0, none⟩) n n) n (cellsOf X n k) ∧ Below w.heap.size w wr) (fun i _ => n - (intOf i).toNat)
  case atStart => exact ⟨0, Nat.zero_le _, rfl, by simpa [toList_madeCells_one, Value.cells, cellsOf] using hown, hb⟩
  case round =>
    obtain ⟨k, hk, rfl, hown', hb'⟩ := hrel
    clear hown hb
    by_cases hlt : k < n
    · have c1 : wr.cell? ⟨w.heap.size, k, none⟩ = (cellsOf X n k)[k]? := hown'.cellAt k (by omega)
      have f1 : wr.frozen? ⟨w.heap.size, k, none⟩ = false := hown'.frozenAt k
      rw [cells_at X n k HL.out hlt] at c1
      have l0 : k < a0.size := by omega
      have l1 : k < a1.size := by omega
      have l2 : k < a2.size := by omega
      go_wp2
      go_region
      have hv := xor_num a0[k] a1[k] a2[k]
      have hxk := HX.out
      have hk0 : k < a0.data.toList.length := by simpa using l0
      have hk1 : k < a1.data.toList.length := by simpa using l1
      have hk2 : k < a2.data.toList.length := by simpa using l2
      have hXk : k < X.length := by rw [HL.out]; exact hlt
      have hx : X[k] = a0[k] ^^^ a1[k] ^^^ a2[k] := by
        have e : X[k]? = some (a0[k] ^^^ a1[k] ^^^ a2[k]) := by
          rw [hxk, List.getElem?_zipWith, List.getElem?_zipWith, List.getElem?_take_of_lt hlt, List.getElem?_take_of_lt hlt, List.getElem?_take_of_lt hlt,
            List.getElem?_eq_getElem hk0, List.getElem?_eq_getElem hk1, List.getElem?_eq_getElem hk2]
          rfl
        rw [List.getElem?_eq_getElem hXk] at e
        exact Option.some.inj e
      rw [← hx] at hv
      have hs := hown'.stored k (.int .u8 (X[k].toNat : Int))
      rw [cells_set X n k HL.out hlt] at hs
      have hs1 := hs.1.drew
      have hb2 := (hb'.setCell (p := ⟨w.heap.size, k, none⟩) (Nat.le_refl _) (.int .u8 (X[k].toNat : Int))).drew
      have HV := Lib.hid hv
      clear hv hx hxk hs c1 f1
      go_wp2
      go_roundw
      case rel => exact ⟨k + 1, by omega, by go_num, by rw [HV.out]; exact hs1, by rw [HV.out]; exact hb2⟩
      case measure => simp [intOf]; omega
    · have hkn : n = k := by omega
      subst hkn
      clear hk hlt
      have hcv : ∀ m, (convert 22 9 (.slice (some ⟨w.heap.size, 0, none⟩) n n)).run Try.prog (wr.drewN m) = .ok (.string ⟨X.toArray⟩) (wr.drewN m) := by
        intro m
        have h := run_convert_bytes_back (P := Try.prog) (wr.drewN m) 22 9 5 ⟨w.heap.size, 0, none⟩ n X Try.underlying22 Try.underlying5 Try.underlying9 ?_
        · rw [HL.out] at h; exact h
        · intro j hj
          have h := hown'.cellAt j (by have := HL.out; omega)
          rw [World.cell?_drewN]
          rw [add0, h]
          unfold cellsOf
          simp [List.take_of_length_le (Nat.le_of_eq HL.out), hj]
      clear hown'
      have z0 : (⟨X.toArray⟩ : ByteArray).size ≤ 9223372036854775807 := by
        show X.toArray.size ≤ _
        rw [List.size_toArray, HL.out]; omega
      have z1 : (a0.extract 0 n).size ≤ 9223372036854775807 := by rw [ByteArray.size_extract]; omega
      have z2 : (a1.extract 0 n).size ≤ 9223372036854775807 := by rw [ByteArray.size_extract]; omega
      have z3 : (a2.extract 0 n).size ≤ 9223372036854775807 := by rw [ByteArray.size_extract]; omega
      have hfin : bits .xor .u32 (bits .xor .u32 (U (of (a0.data.toList.take n))) (U (of (a1.data.toList.take n)))) (U (of (a2.data.toList.take n))) = U (of X) := by
        refine eq32 (bits32_nonneg _ _ _) (bits32_lt _ _ _) ?_
        rw [of_xor32, of_xor32, of_U, of_U, of_U, HX.out, of_xor3 _ _ _ (by simp; have e0 : a0.data.size = a0.size := rfl; have e1 : a1.data.size = a1.size := rfl; omega) (by simp; have e0 : a0.data.size = a0.size := rfl; have e1 : a2.data.size = a2.size := rfl; omega)]
      have HF := Lib.hid hfin
      clear hfin
      go_wp2
      go_quiet ((first | (go_at_call 15; exact quiet_of (lives_any _)) | (go_at_call 16; exact quiet_of (of_any _ (by assumption) _))))
      go_wp2
      go_ret
      exact ⟨ret_true (by rw [HF.out]; simp), below_drewN hb' _⟩
end Go.Proofs.Ytnbelagjgmjehaa.Crc
