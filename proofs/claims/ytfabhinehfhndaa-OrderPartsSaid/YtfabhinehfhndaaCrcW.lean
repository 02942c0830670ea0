/-
  The walks of crc.take, crc.More and crc.Of: each returns what the plain mathematics says; for every word, byte and text up to the greatest length, in every memory.
-/
import Derived.Test.YtfabhinehfhndaaProg
import Derived.Test.YtfabhinehfhndaaCrcM
import Derived.Test.YtfabhinehfhndaaBas
set_option linter.unusedVariables false
set_option linter.unusedSimpArgs false
namespace Go.Proofs.Ytfabhinehfhndaa.Crc
open Go.RowKit Go.Proofs.Ytfabhinehfhndaa.Bv

theorem ret_u32 {a b : Int} (h : a = b) : Ending.returned (.int .u32 a) = .returned (.int .u32 b) := by rw [h]

theorem take_core (m : BitVec 32) (x y : Int) (h0 : 0 ≤ x) (h1 : x ≤ 4294967295) (h2 : 0 ≤ y) (h3 : y ≤ 255) (hm : m = BitVec.ofInt 32 x ^^^ (BitVec.ofInt 8 y).setWidth 32) (w : World) :
    Calls Try.prog 122 #[.int .u32 x, .int .u8 y] w fun e w' => e = .returned (.int .u32 (U (steps 8 m))) ∧ w = w' := by
  have HI := Lib.hid (in_num x y h2 (by omega)); rw [← hm] at HI; clear hm
  go_enter Try.func122, Try.ntmps122
  go_wp2
  go_loop [0, 9] (fun x i => ∃ (k : Nat) (q : BitVec 32), k ≤ 8 ∧ i = .int .i64 k ∧ x = .int .u32 (U q) ∧ Hid (steps (8 - k) q = steps 8 m)) (fun _ i => 8 - (intOf i).toNat)
  case atStart => exact ⟨0, m, by omega, rfl, by rw [HI.out], rfl⟩
  case round =>
    obtain ⟨k, q, hk, rfl, rfl, hq⟩ := hrel
    by_cases hlt : k < 8
    · go_wp2
      go_round
      case rel =>
        refine ⟨k + 1, step q, by omega, by go_num, by rw [step_num], ?_⟩
        have h := hq.out
        rw [show 8 - k = (8 - (k + 1)) + 1 by omega] at h
        exact h
      case measure => simp [intOf]; omega
    · have hk8 : k = 8 := by omega
      have h := hq.out
      rw [hk8] at h
      clear hq hk8
      have HF := Lib.hid h
      clear h
      go_wp2
      go_ret
      exact ⟨ret_u32 (by rw [← HF.out]; rfl), rfl⟩

/-- crc.take. -/
theorem take_any (n : BitVec 32) (b : UInt8) (x y : Int) (hx : x = U n) (hy : y = (b.toNat : Int)) (w : World) :
    Calls Try.prog 122 #[.int .u32 x, .int .u8 y] w fun e w' => e = .returned (.int .u32 (U (take n b))) ∧ w = w' := by
  subst hx hy
  have hb := b.toNat_lt
  refine take_core _ _ _ (U_nonneg _) (U32_le _) (by omega) (by omega) ?_ w
  rw [of_U]
  congr 2
  rw [BitVec.ofInt_natCast]
  exact (BitVec.ofNat_toNat 8 b.toBitVec).trans (BitVec.setWidth_eq _) |>.symm

theorem not_num (x : Int) : bits BinOp.xor IntKind.u32 IntKind.u32.max x = U (~~~(BitVec.ofInt 32 x)) := by
  refine eq32 (bits32_nonneg _ _ _) (bits32_lt _ _ _) ?_
  rw [of_xor32]
  exact BitVec.allOnes_xor

theorem take_succ' (s : ByteArray) (k : Nat) (h : k < s.size) : s.data.toList.take (k + 1) = s.data.toList.take k ++ [s[k]] := by
  rw [List.take_succ_eq_append_getElem (by simpa using h)]; rfl

/-- crc.More. -/
theorem more_any (x : Int) (s : ByteArray) (h0 : 0 ≤ x) (h1 : x ≤ 4294967295) (hs : s.size ≤ 9223372036854775807) (w : World) :
    Calls Try.prog 117 #[.int .u32 x, .string s] w fun e w' => e = .returned (.int .u32 (U (more (BitVec.ofInt 32 x) s.data.toList))) ∧ w = w' := by
  obtain ⟨n, HM⟩ : ∃ n, Hid (n = BitVec.ofInt 32 x) := ⟨_, rfl⟩
  have HN := Lib.hid (not_num x)
  rw [← HM.out] at HN
  rw [← HM.out]
  clear h0 h1
  go_enter Try.func117, Try.ntmps117
  go_wp2
  go_loop [0, 10] (fun x i => ∃ k : Nat, k ≤ s.size ∧ i = .int .i64 k ∧ x = .int .u32 (U (fold (~~~n) (s.data.toList.take k)))) (fun _ i => s.size - (intOf i).toNat)
  case atStart => exact ⟨0, Nat.zero_le _, rfl, by rw [HN.out]; rfl⟩
  case round =>
    obtain ⟨k, hk, rfl, rfl⟩ := hrel
    by_cases hlt : k < s.size
    · go_wp2_with (go_at_call 122; refine (take_any _ s[k] _ _ rfl rfl _).mono ?_; rintro e w' ⟨rfl, rfl⟩)
      go_round
      case rel =>
        refine ⟨k + 1, by omega, by go_num, ?_⟩
        rw [take_succ' s k hlt, fold_snoc]
      case measure => simp [intOf]; omega
    · go_wp2
      go_ret
      have hk' : k = s.size := by omega
      exact ⟨ret_u32 (by rw [not_num, of_U, hk', List.take_of_length_le (by simp)]; rfl), rfl⟩

/-- crc.Of. -/
theorem of_any (s : ByteArray) (hs : s.size ≤ 9223372036854775807) (w : World) :
    Calls Try.prog 104 #[.string s] w fun e w' => e = .returned (.int .u32 (U (of s.data.toList))) ∧ w = w' := by
  go_enter Try.func104, Try.ntmps104
  go_wp2_with (go_at_call 117; refine (more_any _ s (by decide) (by decide) hs _).mono ?_; rintro e w' ⟨rfl, rfl⟩)
  go_ret
  exact ⟨rfl, rfl⟩

end Go.Proofs.Ytfabhinehfhndaa.Crc
