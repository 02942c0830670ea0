/-
  The walk of the law CrcCuts: for all three texts of bulk at most 1048576 it returns true; what was there stays.
-/
import Derived.Test.YtnbelagjgmjehaaCrcJoin
set_option linter.unusedVariables false
namespace Go.Proofs.Ytnbelagjgmjehaa.Crc
open Go.RowKit Go.Proofs.Ytnbelagjgmjehaa.Bv

theorem join_of (a b : List UInt8) (n : Nat) (hn : n ≤ 2147483647) (hb : n = b.length) (x : Int) (hx : x = n) (w : World) :
    Calls Try.prog 36 #[.int .u32 (U (of a)), .int .u32 (U (of b)), .int .i64 x] w fun e w' => e = .returned (.tuple #[.int .u32 (U (of (a ++ b))), .int .i64 0]) ∧ Below w.heap.size w w' :=
  (join_any (of a) (of b) n hn x hx w).mono fun e w' ⟨he, hw⟩ => ⟨he.trans (ret_ue (by rw [of_join, hb])), hw⟩
theorem more_of_any (a : List UInt8) (s : ByteArray) (hs : s.size ≤ 9223372036854775807) (w : World) :
    Calls Try.prog 37 #[.int .u32 (U (of a)), .string s] w fun e w' => e = .returned (.int .u32 (U (of (a ++ s.data.toList)))) ∧ w = w' :=
  (more_any (U (of a)) s (U_nonneg _) (U32_le _) hs w).mono fun e w' ⟨he, hw⟩ => ⟨he.trans (ret_u32 (by rw [of_U, more_of])), hw⟩

set_option maxHeartbeats 1000000 in
theorem cuts_walk (a0 : ByteArray) (a1 : ByteArray) (a2 : ByteArray) (w : World) (w0 : a0.size ≤ maxLen) (r0 : a0.size ≤ 140737488351232) (w1 : a1.size ≤ maxLen) (r1 : a1.size ≤ 140737488351232) (w2 : a2.size ≤ maxLen) (r2 : a2.size ≤ 140737488351232)
    (hb : (a0.size + 1) + (a1.size + 1) + (a2.size + 1) ≤ 1048576) :
    Calls Try.prog 14 #[.string a0, .string a1, .string a2] w fun e w' => e = .returned (.bool true) ∧ Below w.heap.size w w' := by
  clear w0 w1 w2 r0 r1 r2
  have h0 : a0.size ≤ 1048576 := by omega
  have h1 : a1.size ≤ 1048576 := by omega
  have h2 : a2.size ≤ 1048576 := by omega
  have z1 : a1.size = a1.data.toList.length := by simp
  have z2 : a2.size = a2.data.toList.length := by simp
  have z12 : a1.size + a2.size = (a1.data.toList ++ a2.data.toList).length := by simp
  have hs : (a0 ++ a1 ++ a2).size ≤ 9223372036854775807 := by rw [ByteArray.size_append, ByteArray.size_append]; omega
  have hl : (a0 ++ a1 ++ a2).data.toList = a0.data.toList ++ a1.data.toList ++ a2.data.toList := by simp
  have hA := List.append_assoc a0.data.toList a1.data.toList a2.data.toList
  have Z1 := Lib.hid z1
  have Z2 := Lib.hid z2
  have Z12 := Lib.hid z12
  have HS := Lib.hid hs
  have HL := Lib.hid hl
  have HA := Lib.hid hA
  have hsum : a0.size + a1.size ≤ 1048576 := by omega
  have hsum2 : a0.size + a1.size + a2.size ≤ 1048576 := by omega
  clear z1 z2 z12 hs hl hA hb
  go_enter Try.func14, Try.ntmps14
  go_wp2_with fail
  refine (of_any a0 (by omega) _).mono ?_
  rintro e w1 ⟨rfl, rfl⟩
  go_wp2_with fail
  refine (of_any a1 (by omega) _).mono ?_
  rintro e w1 ⟨rfl, rfl⟩
  go_wp2_with fail
  refine (join_of _ _ a1.size (by omega) Z1.out _ rfl _).mono ?_
  rintro e w1 ⟨rfl, b1⟩
  go_wp2_with fail
  refine (of_any a2 (by omega) _).mono ?_
  rintro e w2 ⟨rfl, rfl⟩
  go_wp2_with fail
  refine (join_of _ _ a2.size (by omega) Z2.out _ rfl _).mono ?_
  rintro e w2 ⟨rfl, b2⟩
  go_wp2_with fail
  refine (of_any a1 (by omega) _).mono ?_
  rintro e w3 ⟨rfl, rfl⟩
  go_wp2_with fail
  refine (of_any a2 (by omega) _).mono ?_
  rintro e w3 ⟨rfl, rfl⟩
  go_wp2_with fail
  refine (join_of _ _ a2.size (by omega) Z2.out _ rfl _).mono ?_
  rintro e w3 ⟨rfl, b3⟩
  go_wp2_with fail
  refine (of_any a0 (by omega) _).mono ?_
  rintro e w4 ⟨rfl, rfl⟩
  go_wp2_with fail
  refine (join_of _ _ (a1.size + a2.size) (by omega) Z12.out _ rfl _).mono ?_
  rintro e w4 ⟨rfl, b4⟩
  go_wp2_with fail
  refine (of_any _ HS.out _).mono ?_
  rintro e w5 ⟨rfl, rfl⟩
  go_wp2_with fail
  refine (lives_any _).mono ?_
  rintro e w5 ⟨rfl, rfl⟩
  go_wp2_with fail
  refine (of_any a0 (by omega) _).mono ?_
  rintro e w5 ⟨rfl, rfl⟩
  go_wp2_with fail
  refine (more_of_any a0.data.toList a1 (by omega) _).mono ?_
  rintro e w5 ⟨rfl, rfl⟩
  go_wp2_with fail
  refine (more_of_any (a0.data.toList ++ a1.data.toList) a2 (by omega) _).mono ?_
  rintro e w5 ⟨rfl, rfl⟩
  go_wp2_with fail
  go_ret
  exact ⟨ret_true (by first | rfl | (simp [HL.out, HA.out]; done) | simp), b1.trans ((b2.mono b1.size).trans ((b3.mono (Nat.le_trans b1.size b2.size)).trans (b4.mono (Nat.le_trans b1.size (Nat.le_trans b2.size b3.size)))))⟩
end Go.Proofs.Ytnbelagjgmjehaa.Crc
