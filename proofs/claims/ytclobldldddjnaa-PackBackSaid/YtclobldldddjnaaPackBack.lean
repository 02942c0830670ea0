/-
  PackBack: numbers are got as they were put, whatever stands behind; what is got was put so; no number's bytes begin another one's.
-/
import Derived.Test.YtclobldldddjnaaPackA
import Derived.Test.YtclobldldddjnaaPackV
set_option linter.unusedVariables false
namespace Go.Proofs.Ytclobldldddjnaa.Pack
open Go.RowKit Go.Proofs.Ytclobldldddjnaa Go.Proofs.Ytclobldldddjnaa.Bv

theorem no_prefix {n m : Nat} (hn : n < 18446744073709551616) (hm : m < 18446744073709551616) (h : n ≠ m) : Lib.hasPrefix (strOf (putL n)).data.toList (strOf (putL m)).data.toList = false := by
  rw [strOf_list, strOf_list]
  unfold Lib.hasPrefix
  cases hp : (putL m).isPrefixOf (putL n) with
  | false => rfl
  | true =>
    exfalso
    obtain ⟨t, ht⟩ := List.isPrefixOf_iff_prefix.1 hp
    have := putL_inj (x := m) (y := n) (u := t) (v := []) hm hn (by rw [ht, List.append_nil])
    exact h this.1.symm
def Got (s : ByteArray) (w : World) (n : Int) (r : ByteArray) (e : Ending) (w' : World) : Prop := e = .returned (.tuple #[.int .u64 n, .string r, .int .i64 0]) ∧ Below w.heap.size w w'
theorem get_put_any (n : Nat) (hn : n < 18446744073709551616) (r s : ByteArray) (hs : s.data.toList = putL n ++ r.data.toList) (hs2 : s.size ≤ 9223372036854775807) (w : World) : Calls Try.prog 33 #[.string s] w (Got s w (n : Int) r) := by
  refine (get_any s hs2 w).mono ?_
  rintro e w' ⟨m, rest, k, hG, rfl, hb⟩
  rw [hs] at hG
  obtain ⟨rfl, rfl, rfl⟩ := get_put hn hG
  exact ⟨rfl, hb⟩
set_option maxRecDepth 100000 in
set_option maxHeartbeats 4000000 in
theorem packBack_any (a0 : Int) (a1 : Int) (a2 : Int) (a3 : ByteArray) (a4 : Option Addr) (len4 cap4 : Nat) (w : World) (w0 : (Lit.int .u64 a0).wf = true) (w1 : (Lit.int .u64 a1).wf = true) (w2 : (Lit.int .i64 a2).wf = true) (w3 : a3.size ≤ maxLen) (r3 : a3.size ≤ 140737488351232) (h4 : (.slice (.int .i64) 8 : Sh).Ok w [.slice a4 len4 cap4]) :
    Calls Try.prog 13 #[.int .u64 a0, .int .u64 a1, .int .i64 a2, .string a3, .slice a4 len4 cap4] w fun e w' => e = .returned (.bool true) ∧ Below w.heap.size w w' := by
  obtain ⟨n, rfl, hn⟩ := open_u64 w0
  obtain ⟨m, rfl, hm⟩ := open_u64 w1
  obtain ⟨hk0, hk1⟩ := open_i64 w2
  obtain ⟨hlc, hcc, _, l, hll, hl64, hrd⟩ := ints_open h4
  clear w0 w1 w2 w3 h4
  have HN := Lib.hid hn
  have HM := Lib.hid hm
  have hpl := putL_len n
  have hfk := foldN_lt a2 hk0 hk1
  have HFK := Lib.hid hfk
  have hun := unfoldN_bd n hn
  have hu1 := unfold_any (foldN a2) hfk
  have hu2 := unfold_any n hn
  have hf1 := fold_any a2 hk0 hk1
  have hf2 := fold_any (unfoldN n) hun.1 hun.2
  rw [unfold_fold] at hu1
  rw [fold_unfold] at hf2
  generalize foldN a2 = fk at *
  generalize unfoldN n = un at *
  have hs1 : (strOf (putL n)).size = (putL n).length := strOf_size _
  have hcat : ¬ 9223372036854775807 < (strOf (putL n)).size + a3.size := by rw [hs1]; omega
  have hdat : (strOf (putL n) ++ a3).data.toList = putL n ++ a3.data.toList := by rw [ByteArray.data_append, Array.toList_append, strOf_list]
  have hsz : (strOf (putL n) ++ a3).size ≤ 9223372036854775807 := by rw [ByteArray.size_append, hs1]; omega
  have hg1 := get_put_any n hn a3 (strOf (putL n) ++ a3) hdat hsz
  have ha3 : (a3.toList == a3.toList) = true := bytes_true rfl
  have HL := Lib.hid hll
  clear hn hm hfk hs1 hdat hsz hll
  go_enter Try.func13, Try.ntmps13
  go_wp2_with fail
  refine (put_any n HN.out _ rfl _).mono ?_
  rintro e w1 ⟨rfl, hb1⟩
  go_wp2_with fail
  refine (hg1 _).mono ?_
  rintro e w2 ⟨rfl, hb2⟩
  have hb2 := hb1.trans (hb2.mono hb1.size)
  clear hb1 hg1 hcat
  go_wp2_with fail
  refine (lives_any _).mono ?_
  rintro e w3 ⟨rfl, hb3⟩
  have hb3 := hb2.trans (hb3.mono hb2.size)
  clear hb2
  go_wp2_with fail
  refine (hf1 _).mono ?_
  rintro e w' ⟨rfl, rfl⟩
  go_wp2_with fail
  refine (hu1 _).mono ?_
  rintro e w' ⟨rfl, rfl⟩
  go_wp2_with fail
  refine (hu2 _).mono ?_
  rintro e w' ⟨rfl, rfl⟩
  go_wp2_with fail
  refine (hf2 _).mono ?_
  rintro e w' ⟨rfl, rfl⟩
  clear hf1 hf2 hu1 hu2 hun
  go_wp2_with fail
  refine (get_any a3 (by omega) _).mono ?_
  rintro e w4 ⟨m2, rest2, k2, hG2, rfl, hb4⟩
  have hb4 := hb3.trans (hb4.mono hb3.size)
  clear hb3
  by_cases hk2 : k2 = 0
  · subst hk2
    obtain ⟨hs2, hm2⟩ := get_ok hG2
    have hr2 : rest2.length ≤ a3.size := by
      have h := congrArg List.length hs2
      simp at h
      have e : a3.data.size = a3.size := rfl
      omega
    have hp2 := (putL_len m2).1
    have hcat2 : ¬ 9223372036854775807 < (strOf (putL m2)).size + (strOf rest2).size := by rw [strOf_size, strOf_size]; omega
    have hst : strOf (putL m2) ++ strOf rest2 = a3 := bytes_ext (by rw [ByteArray.data_append, Array.toList_append, strOf_list, strOf_list, hs2])
    have HM2 := Lib.hid hm2
    clear hG2 hs2 hr2 hp2 hm2
    go_wp2_with fail
    refine (put_any m2 HM2.out _ rfl _).mono ?_
    rintro e w5 ⟨rfl, hb5⟩
    have hb5 := hb4.trans (hb5.mono hb4.size)
    clear hb4
    by_cases hnm : n = m
    · have hne : ((n : Int) != (m : Int)) = false := by rw [hnm]; simp
      have hb6 := hb5
      clear hb5 hnm
      by_cases h1000 : 1000 < len4
      · have hgt : (1000 : Int) < (len4 : Int) := by omega
        go_wp2_with fail
        refine (putAll_long a4 len4 cap4 h1000 _).mono ?_
        rintro e w' ⟨rfl, rfl⟩
        clear h1000
        go_wp2_with fail
        refine (getAll_any ⟨#[]⟩ (by decide) _).mono ?_
        rintro e w7 ⟨o7, k7, A7, n7, c7, HG7, rfl, hown7, hb7⟩
        have hb7 := hb6.trans (hb7.mono hb6.size)
        clear HG7 hown7
        go_wp2_with fail
        refine (getAll_any a3 (by omega) _).mono ?_
        rintro e w8 ⟨o8, k8, A8, n8, c8, HG8, rfl, hown8, hb8⟩
        have hb8 := hb7.trans (hb8.mono hb7.size)
        clear HG8 hown8
        go_wp2_with fail
        go_ret
        exact ⟨rfl, hb8⟩
      · have hle : len4 ≤ 1000 := by omega
        clear h1000
        go_wp2_with fail
        refine (putAll_any a4 len4 cap4 l HL.out hle hl64 _ (hrd.later hb6)).mono ?_
        rintro e w7 ⟨rfl, hb7⟩
        have hb7 := hb6.trans (hb7.mono hb6.size)
        have hput : (strOf (putAllL l)).size ≤ 9223372036854775807 := by
          have h1 := items_len l
          have h2 := (putL_len l.length).1
          have h3 := HL.out
          rw [strOf_size]
          unfold putAllL
          rw [List.length_append]
          omega
        go_wp2_with fail
        refine (getAll_any _ hput _).mono ?_
        rintro e w8 ⟨o8, k8, A8, n8, c8, HG8, rfl, hown8, hb8⟩
        rw [strOf_list] at HG8
        obtain ⟨rfl, rfl⟩ := gotAll_put hl64 (by rw [HL.out]; exact hle) HG8
        have hn8 : n8 = o8.length := by
          rcases hown8.2 with ⟨h, h2⟩ | ⟨g, cap, cur, h, _⟩
          · injection h with _ h _; omega
          · injection h
        have hb8' := hb7.trans (hb8.mono hb7.size)
        clear HG8 hput hb7
        rw [hn8, HL.out] at hown8
        have h8a := hn8
        clear hn8
        have hn8 : n8 = len4 := by rw [h8a, HL.out]
        clear h8a
        subst hn8
        go_wp2_with fail
        refine (getAll_any a3 (by omega) _).mono ?_
        rintro e w9 ⟨o9, k9, A9, n9, c9, HG9, rfl, hown9, hb9⟩
        have hb9' := hb8'.trans (hb9.mono hb8'.size)
        have hown8 := hown8.later hb9
        have HG := Lib.hid HG9
        clear HG9
        by_cases hk9 : k9 = 0
        · subst hk9
          obtain ⟨hs9, hl9⟩ := HG.out.2.1 rfl
          have hn9 : n9 = o9.length := by
            rcases hown9.2 with ⟨h, h2⟩ | ⟨g, cap, cur, h, _⟩
            · injection h with _ h _; omega
            · injection h
          have hstr : strOf (putAllL o9) = a3 := bytes_ext (by rw [strOf_list, ← hs9])
          have hput9 := putAll_any A9 n9 c9 o9 hn9.symm (by omega) HG.out.1 w9 (by rw [← hn9] at hown9; exact hown9.rd rfl)
          rw [hstr] at hput9
          clear hs9 hl9 hn9 hstr hown9
          go_wp2_with fail
          refine hput9.mono ?_
          rintro e w10 ⟨rfl, hb10⟩
          have hb10' := hb9'.trans (hb10.mono hb9'.size)
          have hown8 := hown8.later hb10
          have heq := equalI_same (c := c8) (d := cap4) (by omega) (hown8.rd rfl) (hrd.later hb10')
          clear hput9
          go_wp2_with fail
          refine heq.mono ?_
          rintro e w11 ⟨rfl, q, rfl⟩
          go_wp2_with fail
          go_ret
          exact ⟨rfl, below_drewN hb10' q⟩
        · have hk9b : (k9 == 0) = false := by rw [beq_eq_false_iff_ne]; exact hk9
          have heq := equalI_same (c := c8) (d := cap4) (by omega) (hown8.rd rfl) (hrd.later hb9')
          clear hk9 hown9
          go_wp2_with fail
          refine heq.mono ?_
          rintro e w11 ⟨rfl, q, rfl⟩
          go_wp2_with fail
          go_ret
          exact ⟨rfl, below_drewN hb9' q⟩
    · have hne : ((n : Int) != (m : Int)) = true := by rw [bne_iff_ne]; omega
      have hpre := no_prefix HN.out HM.out hnm
      clear hnm
      go_wp2_with fail
      refine (put_any n HN.out _ rfl _).mono ?_
      rintro e w5 ⟨rfl, hb6⟩
      have hb6 := hb5.trans (hb6.mono hb5.size)
      clear hb5
      go_wp2_with fail
      refine (put_any m HM.out _ rfl _).mono ?_
      rintro e w6 ⟨rfl, hb7⟩
      have hb6 := hb6.trans (hb7.mono hb6.size)
      clear hb7
      go_wp2_with fail
      refine (Try.strings_HasPrefix _ _ _).mono ?_
      rintro e w' ⟨rfl, rfl⟩
      rw [hpre]
      clear hpre
      by_cases h1000 : 1000 < len4
      · have hgt : (1000 : Int) < (len4 : Int) := by omega
        go_wp2_with fail
        refine (putAll_long a4 len4 cap4 h1000 _).mono ?_
        rintro e w' ⟨rfl, rfl⟩
        clear h1000
        go_wp2_with fail
        refine (getAll_any ⟨#[]⟩ (by decide) _).mono ?_
        rintro e w7 ⟨o7, k7, A7, n7, c7, HG7, rfl, hown7, hb7⟩
        have hb7 := hb6.trans (hb7.mono hb6.size)
        clear HG7 hown7
        go_wp2_with fail
        refine (getAll_any a3 (by omega) _).mono ?_
        rintro e w8 ⟨o8, k8, A8, n8, c8, HG8, rfl, hown8, hb8⟩
        have hb8 := hb7.trans (hb8.mono hb7.size)
        clear HG8 hown8
        go_wp2_with fail
        go_ret
        exact ⟨rfl, hb8⟩
      · have hle : len4 ≤ 1000 := by omega
        clear h1000
        go_wp2_with fail
        refine (putAll_any a4 len4 cap4 l HL.out hle hl64 _ (hrd.later hb6)).mono ?_
        rintro e w7 ⟨rfl, hb7⟩
        have hb7 := hb6.trans (hb7.mono hb6.size)
        have hput : (strOf (putAllL l)).size ≤ 9223372036854775807 := by
          have h1 := items_len l
          have h2 := (putL_len l.length).1
          have h3 := HL.out
          rw [strOf_size]
          unfold putAllL
          rw [List.length_append]
          omega
        go_wp2_with fail
        refine (getAll_any _ hput _).mono ?_
        rintro e w8 ⟨o8, k8, A8, n8, c8, HG8, rfl, hown8, hb8⟩
        rw [strOf_list] at HG8
        obtain ⟨rfl, rfl⟩ := gotAll_put hl64 (by rw [HL.out]; exact hle) HG8
        have hn8 : n8 = o8.length := by
          rcases hown8.2 with ⟨h, h2⟩ | ⟨g, cap, cur, h, _⟩
          · injection h with _ h _; omega
          · injection h
        have hb8' := hb7.trans (hb8.mono hb7.size)
        clear HG8 hput hb7
        rw [hn8, HL.out] at hown8
        have h8a := hn8
        clear hn8
        have hn8 : n8 = len4 := by rw [h8a, HL.out]
        clear h8a
        subst hn8
        go_wp2_with fail
        refine (getAll_any a3 (by omega) _).mono ?_
        rintro e w9 ⟨o9, k9, A9, n9, c9, HG9, rfl, hown9, hb9⟩
        have hb9' := hb8'.trans (hb9.mono hb8'.size)
        have hown8 := hown8.later hb9
        have HG := Lib.hid HG9
        clear HG9
        by_cases hk9 : k9 = 0
        · subst hk9
          obtain ⟨hs9, hl9⟩ := HG.out.2.1 rfl
          have hn9 : n9 = o9.length := by
            rcases hown9.2 with ⟨h, h2⟩ | ⟨g, cap, cur, h, _⟩
            · injection h with _ h _; omega
            · injection h
          have hstr : strOf (putAllL o9) = a3 := bytes_ext (by rw [strOf_list, ← hs9])
          have hput9 := putAll_any A9 n9 c9 o9 hn9.symm (by omega) HG.out.1 w9 (by rw [← hn9] at hown9; exact hown9.rd rfl)
          rw [hstr] at hput9
          clear hs9 hl9 hn9 hstr hown9
          go_wp2_with fail
          refine hput9.mono ?_
          rintro e w10 ⟨rfl, hb10⟩
          have hb10' := hb9'.trans (hb10.mono hb9'.size)
          have hown8 := hown8.later hb10
          have heq := equalI_same (c := c8) (d := cap4) (by omega) (hown8.rd rfl) (hrd.later hb10')
          clear hput9
          go_wp2_with fail
          refine heq.mono ?_
          rintro e w11 ⟨rfl, q, rfl⟩
          go_wp2_with fail
          go_ret
          exact ⟨rfl, below_drewN hb10' q⟩
        · have hk9b : (k9 == 0) = false := by rw [beq_eq_false_iff_ne]; exact hk9
          have heq := equalI_same (c := c8) (d := cap4) (by omega) (hown8.rd rfl) (hrd.later hb9')
          clear hk9 hown9
          go_wp2_with fail
          refine heq.mono ?_
          rintro e w11 ⟨rfl, q, rfl⟩
          go_wp2_with fail
          go_ret
          exact ⟨rfl, below_drewN hb9' q⟩
  · have hk2b : (k2 == 0) = false := by rw [beq_eq_false_iff_ne]; exact hk2
    have hb5 := hb4
    clear hk2 hG2 hb4
    by_cases hnm : n = m
    · have hne : ((n : Int) != (m : Int)) = false := by rw [hnm]; simp
      have hb6 := hb5
      clear hb5 hnm
      by_cases h1000 : 1000 < len4
      · have hgt : (1000 : Int) < (len4 : Int) := by omega
        go_wp2_with fail
        refine (putAll_long a4 len4 cap4 h1000 _).mono ?_
        rintro e w' ⟨rfl, rfl⟩
        clear h1000
        go_wp2_with fail
        refine (getAll_any ⟨#[]⟩ (by decide) _).mono ?_
        rintro e w7 ⟨o7, k7, A7, n7, c7, HG7, rfl, hown7, hb7⟩
        have hb7 := hb6.trans (hb7.mono hb6.size)
        clear HG7 hown7
        go_wp2_with fail
        refine (getAll_any a3 (by omega) _).mono ?_
        rintro e w8 ⟨o8, k8, A8, n8, c8, HG8, rfl, hown8, hb8⟩
        have hb8 := hb7.trans (hb8.mono hb7.size)
        clear HG8 hown8
        go_wp2_with fail
        go_ret
        exact ⟨rfl, hb8⟩
      · have hle : len4 ≤ 1000 := by omega
        clear h1000
        go_wp2_with fail
        refine (putAll_any a4 len4 cap4 l HL.out hle hl64 _ (hrd.later hb6)).mono ?_
        rintro e w7 ⟨rfl, hb7⟩
        have hb7 := hb6.trans (hb7.mono hb6.size)
        have hput : (strOf (putAllL l)).size ≤ 9223372036854775807 := by
          have h1 := items_len l
          have h2 := (putL_len l.length).1
          have h3 := HL.out
          rw [strOf_size]
          unfold putAllL
          rw [List.length_append]
          omega
        go_wp2_with fail
        refine (getAll_any _ hput _).mono ?_
        rintro e w8 ⟨o8, k8, A8, n8, c8, HG8, rfl, hown8, hb8⟩
        rw [strOf_list] at HG8
        obtain ⟨rfl, rfl⟩ := gotAll_put hl64 (by rw [HL.out]; exact hle) HG8
        have hn8 : n8 = o8.length := by
          rcases hown8.2 with ⟨h, h2⟩ | ⟨g, cap, cur, h, _⟩
          · injection h with _ h _; omega
          · injection h
        have hb8' := hb7.trans (hb8.mono hb7.size)
        clear HG8 hput hb7
        rw [hn8, HL.out] at hown8
        have h8a := hn8
        clear hn8
        have hn8 : n8 = len4 := by rw [h8a, HL.out]
        clear h8a
        subst hn8
        go_wp2_with fail
        refine (getAll_any a3 (by omega) _).mono ?_
        rintro e w9 ⟨o9, k9, A9, n9, c9, HG9, rfl, hown9, hb9⟩
        have hb9' := hb8'.trans (hb9.mono hb8'.size)
        have hown8 := hown8.later hb9
        have HG := Lib.hid HG9
        clear HG9
        by_cases hk9 : k9 = 0
        · subst hk9
          obtain ⟨hs9, hl9⟩ := HG.out.2.1 rfl
          have hn9 : n9 = o9.length := by
            rcases hown9.2 with ⟨h, h2⟩ | ⟨g, cap, cur, h, _⟩
            · injection h with _ h _; omega
            · injection h
          have hstr : strOf (putAllL o9) = a3 := bytes_ext (by rw [strOf_list, ← hs9])
          have hput9 := putAll_any A9 n9 c9 o9 hn9.symm (by omega) HG.out.1 w9 (by rw [← hn9] at hown9; exact hown9.rd rfl)
          rw [hstr] at hput9
          clear hs9 hl9 hn9 hstr hown9
          go_wp2_with fail
          refine hput9.mono ?_
          rintro e w10 ⟨rfl, hb10⟩
          have hb10' := hb9'.trans (hb10.mono hb9'.size)
          have hown8 := hown8.later hb10
          have heq := equalI_same (c := c8) (d := cap4) (by omega) (hown8.rd rfl) (hrd.later hb10')
          clear hput9
          go_wp2_with fail
          refine heq.mono ?_
          rintro e w11 ⟨rfl, q, rfl⟩
          go_wp2_with fail
          go_ret
          exact ⟨rfl, below_drewN hb10' q⟩
        · have hk9b : (k9 == 0) = false := by rw [beq_eq_false_iff_ne]; exact hk9
          have heq := equalI_same (c := c8) (d := cap4) (by omega) (hown8.rd rfl) (hrd.later hb9')
          clear hk9 hown9
          go_wp2_with fail
          refine heq.mono ?_
          rintro e w11 ⟨rfl, q, rfl⟩
          go_wp2_with fail
          go_ret
          exact ⟨rfl, below_drewN hb9' q⟩
    · have hne : ((n : Int) != (m : Int)) = true := by rw [bne_iff_ne]; omega
      have hpre := no_prefix HN.out HM.out hnm
      clear hnm
      go_wp2_with fail
      refine (put_any n HN.out _ rfl _).mono ?_
      rintro e w5 ⟨rfl, hb6⟩
      have hb6 := hb5.trans (hb6.mono hb5.size)
      clear hb5
      go_wp2_with fail
      refine (put_any m HM.out _ rfl _).mono ?_
      rintro e w6 ⟨rfl, hb7⟩
      have hb6 := hb6.trans (hb7.mono hb6.size)
      clear hb7
      go_wp2_with fail
      refine (Try.strings_HasPrefix _ _ _).mono ?_
      rintro e w' ⟨rfl, rfl⟩
      rw [hpre]
      clear hpre
      by_cases h1000 : 1000 < len4
      · have hgt : (1000 : Int) < (len4 : Int) := by omega
        go_wp2_with fail
        refine (putAll_long a4 len4 cap4 h1000 _).mono ?_
        rintro e w' ⟨rfl, rfl⟩
        clear h1000
        go_wp2_with fail
        refine (getAll_any ⟨#[]⟩ (by decide) _).mono ?_
        rintro e w7 ⟨o7, k7, A7, n7, c7, HG7, rfl, hown7, hb7⟩
        have hb7 := hb6.trans (hb7.mono hb6.size)
        clear HG7 hown7
        go_wp2_with fail
        refine (getAll_any a3 (by omega) _).mono ?_
        rintro e w8 ⟨o8, k8, A8, n8, c8, HG8, rfl, hown8, hb8⟩
        have hb8 := hb7.trans (hb8.mono hb7.size)
        clear HG8 hown8
        go_wp2_with fail
        go_ret
        exact ⟨rfl, hb8⟩
      · have hle : len4 ≤ 1000 := by omega
        clear h1000
        go_wp2_with fail
        refine (putAll_any a4 len4 cap4 l HL.out hle hl64 _ (hrd.later hb6)).mono ?_
        rintro e w7 ⟨rfl, hb7⟩
        have hb7 := hb6.trans (hb7.mono hb6.size)
        have hput : (strOf (putAllL l)).size ≤ 9223372036854775807 := by
          have h1 := items_len l
          have h2 := (putL_len l.length).1
          have h3 := HL.out
          rw [strOf_size]
          unfold putAllL
          rw [List.length_append]
          omega
        go_wp2_with fail
        refine (getAll_any _ hput _).mono ?_
        rintro e w8 ⟨o8, k8, A8, n8, c8, HG8, rfl, hown8, hb8⟩
        rw [strOf_list] at HG8
        obtain ⟨rfl, rfl⟩ := gotAll_put hl64 (by rw [HL.out]; exact hle) HG8
        have hn8 : n8 = o8.length := by
          rcases hown8.2 with ⟨h, h2⟩ | ⟨g, cap, cur, h, _⟩
          · injection h with _ h _; omega
          · injection h
        have hb8' := hb7.trans (hb8.mono hb7.size)
        clear HG8 hput hb7
        rw [hn8, HL.out] at hown8
        have h8a := hn8
        clear hn8
        have hn8 : n8 = len4 := by rw [h8a, HL.out]
        clear h8a
        subst hn8
        go_wp2_with fail
        refine (getAll_any a3 (by omega) _).mono ?_
        rintro e w9 ⟨o9, k9, A9, n9, c9, HG9, rfl, hown9, hb9⟩
        have hb9' := hb8'.trans (hb9.mono hb8'.size)
        have hown8 := hown8.later hb9
        have HG := Lib.hid HG9
        clear HG9
        by_cases hk9 : k9 = 0
        · subst hk9
          obtain ⟨hs9, hl9⟩ := HG.out.2.1 rfl
          have hn9 : n9 = o9.length := by
            rcases hown9.2 with ⟨h, h2⟩ | ⟨g, cap, cur, h, _⟩
            · injection h with _ h _; omega
            · injection h
          have hstr : strOf (putAllL o9) = a3 := bytes_ext (by rw [strOf_list, ← hs9])
          have hput9 := putAll_any A9 n9 c9 o9 hn9.symm (by omega) HG.out.1 w9 (by rw [← hn9] at hown9; exact hown9.rd rfl)
          rw [hstr] at hput9
          clear hs9 hl9 hn9 hstr hown9
          go_wp2_with fail
          refine hput9.mono ?_
          rintro e w10 ⟨rfl, hb10⟩
          have hb10' := hb9'.trans (hb10.mono hb9'.size)
          have hown8 := hown8.later hb10
          have heq := equalI_same (c := c8) (d := cap4) (by omega) (hown8.rd rfl) (hrd.later hb10')
          clear hput9
          go_wp2_with fail
          refine heq.mono ?_
          rintro e w11 ⟨rfl, q, rfl⟩
          go_wp2_with fail
          go_ret
          exact ⟨rfl, below_drewN hb10' q⟩
        · have hk9b : (k9 == 0) = false := by rw [beq_eq_false_iff_ne]; exact hk9
          have heq := equalI_same (c := c8) (d := cap4) (by omega) (hown8.rd rfl) (hrd.later hb9')
          clear hk9 hown9
          go_wp2_with fail
          refine heq.mono ?_
          rintro e w11 ⟨rfl, q, rfl⟩
          go_wp2_with fail
          go_ret
          exact ⟨rfl, below_drewN hb9' q⟩
end Go.Proofs.Ytclobldldddjnaa.Pack
