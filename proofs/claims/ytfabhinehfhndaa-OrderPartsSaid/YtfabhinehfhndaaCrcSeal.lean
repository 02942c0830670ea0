/-
  The walks of crc.Seal and crc.Open: a text with its sum behind it; for every text.
-/
import Derived.Test.YtfabhinehfhndaaCrcW
set_option linter.unusedVariables false
set_option linter.unusedSimpArgs false
namespace Go.Proofs.Ytfabhinehfhndaa.Crc
open Go.RowKit Go.Proofs.Ytfabhinehfhndaa.Bv

/-- A sum as four bytes, the least first. -/
def le4 (n : BitVec 32) : List UInt8 := [UInt8.ofNat n.toNat, UInt8.ofNat (n.toNat / 256), UInt8.ofNat (n.toNat / 65536), UInt8.ofNat (n.toNat / 16777216)]
def sealS (s : ByteArray) : ByteArray := s ++ ⟨(le4 (of s.data.toList)).toArray⟩
theorem sealS_list (s : ByteArray) : (sealS s).data.toList = s.data.toList ++ le4 (of s.data.toList) := by
  unfold sealS; rw [ByteArray.data_append, Array.toList_append]
theorem sealS_size (s : ByteArray) : (sealS s).size = s.size + 4 := by
  have h := congrArg List.length (sealS_list s)
  rw [List.length_append] at h
  simp only [Array.length_toList] at h
  exact h

theorem conv4 (n : BitVec 32) (u : World) : (convert 177 9 (.slice (some ⟨u.heap.size, 0, none⟩) 4 4)).run Try.prog (u.alloc (.cells #[.int .u8 (U n % 256), .int .u8 (U n / 256 % 256), .int .u8 (U n / 65536 % 256), .int .u8 (U n / 16777216 % 256)] 5)) =
    .ok (.string ⟨(le4 n).toArray⟩) (u.alloc (.cells #[.int .u8 (U n % 256), .int .u8 (U n / 256 % 256), .int .u8 (U n / 65536 % 256), .int .u8 (U n / 16777216 % 256)] 5)) := by
  refine run_convert_bytes_back (P := Try.prog) _ 177 9 5 ⟨u.heap.size, 0, none⟩ 4 (le4 n) Try.underlying177 Try.underlying5 Try.underlying9 ?_
  intro j hj
  rw [add0]
  have hj4 : j < 4 := hj
  have hU : U n = (n.toNat : Int) := rfl
  rw [hU]
  match j, hj4 with
  | 0, _ => simp [le4, World.cell?_alloc_new]
  | 1, _ => simp [le4, World.cell?_alloc_new]
  | 2, _ => simp [le4, World.cell?_alloc_new]
  | 3, _ => simp [le4, World.cell?_alloc_new]

theorem seal_any (s : ByteArray) (hs : s.size ≤ 9223372036854775800) (w : World) :
    Calls Try.prog 81 #[.string s] w fun e w' => e = .returned (.string (sealS s)) ∧ Below w.heap.size w w' := by
  have hcv := conv4 (of s.data.toList)
  have hl : (le4 (of s.data.toList)).length ≤ 4 := Nat.le_refl _
  go_enter Try.func81, Try.ntmps81
  go_wp2_with (go_at_call 104; refine (of_any _ (by omega) _).mono ?_; rintro e w' ⟨rfl, rfl⟩)
  go_ret
  exact ⟨rfl, (Below.refl _ _).alloc (Nat.le_refl _) _⟩

/-- What Open tells: the text, and the error's number. -/
def openS (s : ByteArray) : ByteArray × Int :=
  if s.size < 4 then (⟨#[]⟩, 3) else if sealS (s.extract 0 (s.size - 4)) = s then (s.extract 0 (s.size - 4), 0) else (⟨#[]⟩, 5)

theorem ret_open {a b : ByteArray × Int} (h : b = a) : Ending.returned (.tuple #[.string a.1, .int .i64 a.2]) = .returned (.tuple #[.string b.1, .int .i64 b.2]) := by rw [h]

theorem open_any (s : ByteArray) (hs : s.size ≤ 9223372036854775800) (w : World) :
    Calls Try.prog 82 #[.string s] w fun e w' => e = .returned (.tuple #[.string (openS s).1, .int .i64 (openS s).2]) ∧ Below w.heap.size w w' := by
  by_cases h4 : s.size < 4
  · have HF := Lib.hid (show openS s = (⟨#[]⟩, 3) by unfold openS; rw [if_pos h4])
    go_enter Try.func82, Try.ntmps82
    go_wp2_with fail
    go_ret2
    exact ⟨ret_open HF.out, Below.refl _ _⟩
  · have hm : ((s.size : Int) - 4) = ((s.size - 4 : Nat) : Int) := by omega
    have hz : (s.extract 0 (s.size - 4)).size ≤ 9223372036854775800 := by rw [ByteArray.size_extract]; omega
    obtain ⟨m, HM⟩ : ∃ m, Hid (m = s.size - 4) := ⟨_, rfl⟩
    rw [← HM.out] at hm hz
    have hms : m + 4 ≤ s.size := by have := HM.out; omega
    have hms' : s.size ≤ m + 4 := by have := HM.out; omega
    by_cases h5 : sealS (s.extract 0 m) = s
    · have HF := Lib.hid (show openS s = (s.extract 0 m, 0) by unfold openS; rw [← HM.out, if_neg h4, if_pos h5])
      have h5' := bytes_true h5
      have H5 := Lib.hid h5
      clear h5
      go_enter Try.func82, Try.ntmps82
      go_wp2_with (go_at_call 81; refine (seal_any _ hz _).mono ?_; rintro e w1 ⟨rfl, hb⟩)
      go_ret2
      exact ⟨ret_open HF.out, by assumption⟩
    · have HF := Lib.hid (show openS s = (⟨#[]⟩, 5) by unfold openS; rw [← HM.out, if_neg h4, if_neg h5])
      have h5' := bytes_false h5
      clear h5
      go_enter Try.func82, Try.ntmps82
      go_wp2_with (go_at_call 81; refine (seal_any _ hz _).mono ?_; rintro e w1 ⟨rfl, hb⟩)
      go_ret2
      exact ⟨ret_open HF.out, by assumption⟩

theorem open_seal (s : ByteArray) : openS (sealS s) = (s, 0) := by
  have h1 : (sealS s).extract 0 ((sealS s).size - 4) = s := by
    apply bytes_ext
    rw [Lib.extract_data, sealS_list, sealS_size, List.drop_zero]
    have e : s.size + 4 - 4 - 0 = s.data.toList.length := by simp
    rw [e, List.take_left]
  have h2 := sealS_size s
  unfold openS
  rw [if_neg (by omega), h1, if_pos rfl]
/-- What is opened, sealed, is what it was. -/
theorem open_back (s : ByteArray) : (openS s).2 = 0 ∧ sealS (openS s).1 = s ∨ ((openS s).2 = 3 ∨ (openS s).2 = 5) ∧ (openS s).1 = ⟨#[]⟩ := by
  unfold openS
  split
  · exact .inr ⟨.inl rfl, rfl⟩
  · split
    · rename_i h; exact .inl ⟨rfl, h⟩
    · exact .inr ⟨.inr rfl, rfl⟩
end Go.Proofs.Ytfabhinehfhndaa.Crc
