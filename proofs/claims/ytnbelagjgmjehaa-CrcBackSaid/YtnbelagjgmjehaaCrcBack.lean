/-
  The walk of the law CrcBack: for every text it returns true; what was there stays.
-/
import Derived.Test.YtnbelagjgmjehaaCrcSeal
set_option linter.unusedVariables false
namespace Go.Proofs.Ytnbelagjgmjehaa.Crc
open Go.RowKit Go.Proofs.Ytnbelagjgmjehaa.Bv

theorem back_walk (a0 : ByteArray) (w : World) (w0 : a0.size ≤ maxLen) (r0 : a0.size ≤ 140737488351232) :
    Calls Try.prog 13 #[.string a0] w fun e w' => e = .returned (.bool true) ∧ Below w.heap.size w w' := by
  clear w0
  have h1 := open_seal a0
  have h2 := open_back a0
  have hz := sealS_size a0
  obtain ⟨T, HT⟩ : ∃ T, Hid (T = sealS a0) := ⟨_, rfl⟩
  have HT' := HT.out
  rw [← HT'] at h1 hz
  have hz' : T.size ≤ 9223372036854775800 := by omega
  have HO := Lib.hid h1
  clear h1 hz HT'
  obtain ⟨⟨u, f⟩, hu⟩ : ∃ x, x = openS a0 := ⟨_, rfl⟩
  rw [← hu] at h2
  have HU := Lib.hid hu.symm
  clear hu
  have hsz : a0.size ≤ 9223372036854775800 := by omega
  have hes : (a0.toList == a0.toList) = true := bytes_true rfl
  rcases h2 with ⟨hf, hs⟩ | ⟨hf, hs⟩
  · simp only at hf hs
    subst hf
    have hus : u.size ≤ 9223372036854775800 := by have := sealS_size u; rw [hs] at this; omega
    have HS := Lib.hid hs
    have hse := bytes_true hs
    clear hs
    go_enter Try.func13, Try.ntmps13
    go_wp2_with fail
    refine (seal_any a0 hsz _).mono ?_
    rintro e w1 ⟨rfl, hb1⟩
    rw [← HT.out]
    go_wp2_with fail
    refine (open_is HO.out hz' _).mono ?_
    rintro e w2 ⟨rfl, hb2⟩
    go_wp2_with fail
    refine (open_is HU.out hsz _).mono ?_
    rintro e w3 ⟨rfl, hb3⟩
    go_wp2_with fail
    refine (lives_any _).mono ?_
    rintro e w4 ⟨rfl, rfl⟩
    go_wp2_with fail
    refine (seal_any u hus _).mono ?_
    rintro e w5 ⟨rfl, hb5⟩
    go_wp2_with fail
    go_ret
    exact ⟨rfl, hb1.trans ((hb2.mono hb1.size).trans ((hb3.mono (Nat.le_trans hb1.size hb2.size)).trans (hb5.mono (Nat.le_trans hb1.size (Nat.le_trans hb2.size hb3.size)))))⟩
  · simp only at hs
    subst hs
    have hf0 : (f == 0) = false := by simp only at hf; rcases hf with rfl | rfl <;> rfl
    have hf1 : (f != 0) = true := by simp only at hf; rcases hf with rfl | rfl <;> rfl
    clear hf
    go_enter Try.func13, Try.ntmps13
    go_wp2_with fail
    refine (seal_any a0 hsz _).mono ?_
    rintro e w1 ⟨rfl, hb1⟩
    rw [← HT.out]
    go_wp2_with fail
    refine (open_is HO.out hz' _).mono ?_
    rintro e w2 ⟨rfl, hb2⟩
    go_wp2_with fail
    refine (open_is HU.out hsz _).mono ?_
    rintro e w3 ⟨rfl, hb3⟩
    go_wp2_with fail
    refine (lives_any _).mono ?_
    rintro e w4 ⟨rfl, rfl⟩
    go_wp2_with fail
    go_ret
    exact ⟨rfl, hb1.trans ((hb2.mono hb1.size).trans (hb3.mono (Nat.le_trans hb1.size hb2.size)))⟩
end Go.Proofs.Ytnbelagjgmjehaa.Crc
