/-
  The walks of tree.Root and tree.Grows.
-/
import Derived.Test.YtmooknaljkeaaaaTreeW
set_option linter.unusedVariables false
namespace Go.Proofs.Ytmooknaljkeaaaa.Tree
open Go.RowKit Go.Proofs.Ytmooknaljkeaaaa Go.Proofs.Ytmooknaljkeaaaa.Bv Go.Proofs.Ytmooknaljkeaaaa.Mark

theorem rootf_any (A : Option Addr) (n c : Nat) (l : List ByteArray) (w : World) (h256 : n ≤ 256) (hnc : n ≤ c) (hc : c ≤ 9223372036854775807) (hs : Short l) (hr : Rd w 1 A n (cellsS l)) :
    Calls Try.prog 19 #[.slice A n c] w fun e w' => e = .returned (.tuple #[.int .u64 (U (rootL (lists l))), .int .i64 0]) ∧ ∃ q, w' = w.drewN q := by
  have hroot := root_any n A n c l w (Nat.le_refl _) h256 hnc hc hs hr
  generalize rootL (lists l) = z at *
  go_enter Try.func19, Try.ntmps19
  go_wp2_with fail
  refine hroot.mono ?_
  rintro e w' ⟨rfl, q, rfl⟩
  go_wp2_with fail
  go_ret2
  exact ⟨rfl, q, rfl⟩
theorem rootf_long (A : Option Addr) (n c : Nat) (w : World) (h256 : 256 < n) :
    Calls Try.prog 19 #[.slice A n c] w fun e w' => e = .returned (.tuple #[.int .u64 0, .int .i64 2]) ∧ w = w' := by
  have h2 : (256 : Int) < (n : Int) := by omega
  go_enter Try.func19, Try.ntmps19
  go_wp2_with fail
  go_ret2
  exact ⟨rfl, rfl⟩

/-- The marks of the parts, from the greatest on: bits below 2 ^ e. -/
def growsF (k : Nat) : Nat → List (List UInt8) → List W
  | 0, _ => []
  | e + 1, l => if k.testBit e then rootL (l.take (2 ^ e)) :: growsF k e (l.drop (2 ^ e)) else growsF k e l
def cellsW (l : List W) : List Value := l.map fun x => Value.int .u64 (U x)
theorem cellsW_len (l : List W) : (cellsW l).length = l.length := by unfold cellsW; simp
theorem cellsW_get (l : List W) (i : Nat) (h : i < l.length) : (cellsW l)[i]? = some (.int .u64 (U l[i])) := by unfold cellsW; simp [h]
theorem cellsW_snoc (l : List W) (x : W) : cellsW (l ++ [x]) = cellsW l ++ [.int .u64 (U x)] := by unfold cellsW; simp
def GW (_ : Nat) (u : Value) : Prop := ∃ n : Int, u = .int .u64 n
theorem infoU64 : (Try.prog.info? 30).map (fun i => (i.zero, i.size, i.bytes)) = some (some (.int .u64 0), 1, 8) := by kernel_rfl
theorem growsF_len (k e : Nat) (l : List (List UInt8)) : (growsF k e l).length ≤ e := by
  induction e generalizing l with
  | zero => simp [growsF]
  | succ e ih =>
    rw [growsF]; split
    · have := ih (l.drop (2 ^ e)); simp; omega
    · have := ih l; omega
theorem bit_mod (k e : Nat) : k % 2 ^ (e + 1) = k % 2 ^ e + if k.testBit e then 2 ^ e else 0 := by
  rw [Nat.pow_succ, Nat.mod_mul, Nat.testBit_eq_decide_div_mod_eq]
  rcases Nat.mod_two_eq_zero_or_one (k / 2 ^ e) with h | h <;> simp [h]
theorem and_two (k e : Nat) : k &&& 2 ^ e = if k.testBit e then 2 ^ e else 0 := Nat.eq_of_testBit_eq fun i => by
  rw [Nat.testBit_and, Nat.testBit_two_pow]
  by_cases h : e = i
  · subst h
    cases hk : k.testBit e <;> simp
  · cases hk : k.testBit e <;> simp [h]
theorem and_bit (k e : Nat) (hk : k < 9223372036854775808) (he : e < 63) : bits .and .i64 (k : Int) ((2 ^ e : Nat) : Int) = if k.testBit e then ((2 ^ e : Nat) : Int) else 0 := by
  rw [and_i64 k (2 ^ e) hk (Nat.pow_lt_pow_right (a := 2) (by decide) he), and_two]
  cases k.testBit e <;> simp
/-- How Grows ends. -/
def GrowsPost (k : Nat) (l : List ByteArray) (w : World) (e : Ending) (w' : World) : Prop :=
  ∃ A c, e = .returned (.tuple #[.slice A (growsF k 9 (lists l)).length c, .int .i64 0]) ∧ Own w' w.heap.size 30 1 GW (.slice A (growsF k 9 (lists l)).length c) (growsF k 9 (lists l)).length (cellsW (growsF k 9 (lists l))) ∧ Below w.heap.size w w'
theorem grows_long (A : Option Addr) (n c : Nat) (k : Int) (w : World) (h256 : 256 < n) :
    Calls Try.prog 15 #[.slice A n c, .int .i64 k] w fun e w' => e = .returned (.tuple #[.slice none 0 0, .int .i64 2]) ∧ w = w' := by
  have h2 : (256 : Int) < (n : Int) := by omega
  go_enter Try.func15, Try.ntmps15
  go_wp2_with fail
  go_ret2
  exact ⟨rfl, rfl⟩
theorem grows_arg (A : Option Addr) (n c : Nat) (k : Int) (w : World) (h256 : n ≤ 256) (hk : k < 0 ∨ (n : Int) < k) :
    Calls Try.prog 15 #[.slice A n c, .int .i64 k] w fun e w' => e = .returned (.tuple #[.slice none 0 0, .int .i64 1]) ∧ w = w' := by
  rcases hk with h | h
  · go_enter Try.func15, Try.ntmps15
    go_wp2_with fail
    go_ret2
    exact ⟨rfl, rfl⟩
  · have h0 : ¬ k < 0 := by omega
    go_enter Try.func15, Try.ntmps15
    go_wp2_with fail
    go_ret2
    exact ⟨rfl, rfl⟩
set_option maxHeartbeats 2000000 in
set_option maxRecDepth 100000 in
theorem grows_any (A : Option Addr) (n c k : Nat) (l : List ByteArray) (w : World) (h256 : n ≤ 256) (hk : k ≤ n) (hnc : n ≤ c) (hc : c ≤ 9223372036854775807) (hs : Short l) (hr : Rd w 1 A n (cellsS l)) :
    Calls Try.prog 15 #[.slice A n c, .int .i64 (k : Int)] w (GrowsPost k l w) := by
  obtain ⟨i0, hi, hz0, hz1, hz2⟩ := info_parts infoU64
  have hk0 : ¬ (k : Int) < 0 := by omega
  have hkn : ¬ (n : Int) < (k : Int) := by omega
  have HB : Hid (∀ e, e < 63 → bits .and .i64 (k : Int) ((2 ^ e : Nat) : Int) = if k.testBit e then ((2 ^ e : Nat) : Int) else 0) := fun e he => and_bit k e (by omega) he
  have HM : Hid (k % 2 ^ 9 ≤ n) := by show _ ≤ _; have := Nat.mod_le k (2 ^ 9); omega
  go_enter Try.func15, Try.ntmps15
  go_wp2_with fail
  clear hk0 hkn
  go_loopw [0, 6, 7] (fun L v b wr => ∃ (e n' c' : Nat) (A' : Option Addr) (lr : List ByteArray) (acc : List W), e ≤ 9 ∧ b = .int .i64 ((2 ^ e / 2 : Nat) : Int) ∧ L = .slice A' n' c' ∧ n' ≤ 256 ∧ n' ≤ c' ∧ c' ≤ 9223372036854775807 ∧ Short lr ∧ Rd w 1 A' n' (cellsS lr) ∧
      Hid (k % 2 ^ e ≤ n') ∧ Hid (acc ++ growsF k e (lists lr) = growsF k 9 (lists l)) ∧ Own wr w.heap.size 30 1 GW v acc.length (cellsW acc) ∧ acc.length + e ≤ 9 ∧ Below w.heap.size w wr) (fun _ _ b _ => (intOf b).toNat)
  case atStart => exact ⟨9, n, c, A, l, [], Nat.le_refl _, rfl, rfl, h256, hnc, hc, hs, hr, HM, rfl, Own.nil _ _ _ _ _, by decide, Below.refl _ _⟩
  case round =>
    clear h256 hnc hc hs hr HM hk
    obtain ⟨e, n', c', A', lr, acc, he, rfl, rfl, h256, hnc, hc, hs, hr, HM, HG, hown, hal, hb⟩ := hrel
    have HA := Lib.hid hal
    cases e with
    | zero =>
      have hz : ((2 ^ 0 / 2 : Nat) : Int) = 0 := rfl
      obtain ⟨A2, c2, rfl, _⟩ := hown.shape
      have hG := HG.out
      rw [growsF, List.append_nil] at hG
      have HG2 := Lib.hid hG
      clear hG hal
      rw [hz]
      go_wp2_with fail
      go_ret2
      refine ⟨A2, c2, ?_, ?_, hb⟩
      · rw [← HG2.out]; rfl
      · rw [← HG2.out]; exact hown
    | succ e =>
      have hp : 2 ^ (e + 1) / 2 = 2 ^ e := by rw [Nat.pow_succ, Nat.mul_div_cancel _ (by decide)]
      have hbit := HB.out e (by omega)
      have hm := HM.out
      rw [bit_mod] at hm
      have hle : 2 ^ e ≤ 256 := Nat.le_trans (Nat.pow_le_pow_right (by decide) (by omega : e ≤ 8)) (by decide)
      have hpos : 0 < 2 ^ e := Nat.two_pow_pos e
      rw [hp]
      cases ht : k.testBit e with
      | false =>
        rw [ht] at hbit hm
        have HG2 : Hid (acc ++ growsF k e (lists lr) = growsF k 9 (lists l)) := by
          have h := HG.out; rw [growsF, ht] at h; exact h
        have hm2 : k % 2 ^ e ≤ n' := by simpa using hm
        have HM2 := Lib.hid hm2
        have hbit : bits .and .i64 (k : Int) ((2 ^ e : Nat) : Int) = 0 := by simpa using hbit
        clear hm hm2 ht hp
        generalize hP : 2 ^ e = P at *
        obtain ⟨P2, HP2⟩ : ∃ P2, Hid (P / 2 = P2) := ⟨_, Lib.hid rfl⟩
        have hd : (P : Int) / 2 = (P2 : Int) := by rw [← HP2.out]; omega
        have hP2 : P2 < P := by rw [← HP2.out]; omega
        have HP := Lib.hid hP
        clear hP
        go_wp2_with fail
        go_roundw
        case rel => exact ⟨e, n', c', A', lr, acc, by omega, by rw [HP.out, HP2.out], rfl, h256, hnc, hc, hs, hr, by show _ ≤ _; rw [HP.out]; exact HM2.out, HG2, hown, by omega, hb⟩
        case measure => simp [intOf]; omega
      | true =>
        rw [ht] at hbit hm
        have hm2 : k % 2 ^ e + 2 ^ e ≤ n' := by simpa using hm
        have HG2 : Hid (acc ++ (rootL ((lists lr).take (2 ^ e)) :: growsF k e ((lists lr).drop (2 ^ e))) = growsF k 9 (lists l)) := by
          have h := HG.out; rw [growsF, ht] at h; exact h
        have hbit : bits .and .i64 (k : Int) ((2 ^ e : Nat) : Int) = ((2 ^ e : Nat) : Int) := by simpa using hbit
        obtain ⟨b, o, rfl, _⟩ := hr.2 (by omega)
        have hcut := Rd.cut hr (2 ^ e) (by omega)
        have hl : lr.length = n' := by have := hr.1; rw [cellsS_len] at this; omega
        have ht1 : lists (lr.take (2 ^ e)) = (lists lr).take (2 ^ e) := by unfold lists; rw [List.map_take]
        have ht2 : lists (lr.drop (2 ^ e)) = (lists lr).drop (2 ^ e) := by unfold lists; rw [List.map_drop]
        have hroot := root_any (2 ^ e) (some ⟨b, o, none⟩) (2 ^ e) c' (lr.take (2 ^ e)) wr (Nat.le_refl _) hle (by omega) hc (fun s h => hs s (List.mem_of_mem_take h)) (hcut.1.later hb)
        rw [ht1] at hroot
        rw [← ht2] at HG2
        have hdrop := hcut.2
        have hs2 : Short (lr.drop (2 ^ e)) := fun s h => hs s (List.mem_of_mem_drop h)
        have HM2 : Hid (k % 2 ^ e ≤ n' - 2 ^ e) := by show _ ≤ _; omega
        have hn2 : 2 ^ e ≤ n' := by omega
        generalize rootL ((lists lr).take (2 ^ e)) = z at *
        generalize lr.drop (2 ^ e) = ld at *
        clear hm hm2 ht hp hcut ht1 ht2 hl hr hs HG
        generalize hP : 2 ^ e = P at *
        obtain ⟨P2, HP2⟩ : ∃ P2, Hid (P / 2 = P2) := ⟨_, Lib.hid rfl⟩
        have hd : (P : Int) / 2 = (P2 : Int) := by rw [← HP2.out]; omega
        have hP2 : P2 < P := by rw [← HP2.out]; omega
        have hne : ((P : Int) != 0) = true := by rw [bne_iff_ne]; omega
        have HP := Lib.hid hP
        clear hP
        go_wp2_with fail
        refine hroot.mono ?_
        rintro e' w5 ⟨rfl, q, rfl⟩
        have hN := (Below.refl wr.heap.size wr).alloc (Nat.le_refl _) (.cells #[.int .u64 (U z)] 30)
        have HOW := Lib.hid ((hown.later hN).drewN q)
        have hrd : Rd (wr.alloc (.cells #[.int .u64 (U z)] 30)) 1 (some ⟨wr.heap.size, 0, none⟩) 1 [.int .u64 (U z)] :=
          ⟨rfl, fun _ => ⟨wr.heap.size, 0, rfl, fun q u hq => by
            match q, hq with
            | 0, hq => simp at hq; subst hq; simp⟩⟩
        have HRD := Lib.hid (hrd.drewN q)
        have hb6 := below_drewN (hb.alloc hb.size (.cells #[.int .u64 (U z)] 30)) q
        clear hown hrd hroot hN
        have HG3 : Hid ((acc ++ [z]) ++ growsF k e (lists ld) = growsF k 9 (lists l)) := by
          show _ = _
          rw [← HG2.out, List.append_assoc]; rfl
        have hlen : acc.length + 1 = (acc ++ [z]).length := by simp
        have HLN := Lib.hid hlen
        clear hbit HG2 hlen
        have hbit : bits .and .i64 (k : Int) (P : Int) = (P : Int) := by assumption
        by_cases hcap : c' = P
        · subst hcap
          obtain rfl : n' = c' := by omega
          have hld : ld = [] := List.eq_nil_of_length_eq_zero (by have := hdrop.1; rw [cellsS_len] at this; omega)
          have HLD := Lib.hid hld
          clear hld
          go_wp2_with (at_builtin; refine wpList_append_all _ rfl _ _ 23 rfl w.heap.size 30 i0 (.int .u64 0) 1 8 Try.underlying23 hi hz0 hz1 hz2 rfl (by decide) GW ?g1 _ acc.length (cellsW acc) rfl HOW.out (some ⟨wr.heap.size, 0, none⟩) 1 1 [.int .u64 (U z)] rfl HRD.out ?g2 ?g3 ?g4 ?g5 ?g6 ?_)
          case g1 => intro q u hq; match q, hq with | 0, hq => exact ⟨0, (Option.some.inj hq).symm⟩
          case g2 => intro u hu; simp at hu; subst hu; rfl
          case g3 => intro q u hq; match q, hq with | 0, hq => exact ⟨_, (Option.some.inj hq).symm⟩
          case g4 => unfold maxLen; omega
          case g5 => omega
          case g6 => exact hb6.size
          intro v' w7 hown7 hgrow _ hat
          have hb7 := hb6.grown hgrow hb6.size (fun q hq => (HOW.out.row.lt q hq).1)
          rw [← cellsW_snoc] at hown7
          clear hgrow hat hb6
          go_wp2_with fail
          go_roundw
          case rel => exact ⟨e, 0, 0, some ⟨b, o, none⟩, ld, acc ++ [z], by omega, by rw [HP.out, HP2.out], by simp, by omega, by omega, by omega, hs2, by rw [HLD.out]; exact Rd.zero _ _ _, by show _ ≤ _; rw [HP.out]; have := HM2.out; omega, HG3, by rw [← HLN.out]; exact hown7, by rw [← HLN.out]; omega, hb7⟩
          case measure => simp [intOf]; omega
        · have hcap2 : ¬ c' = P := hcap
          go_wp2_with (at_builtin; refine wpList_append_all _ rfl _ _ 23 rfl w.heap.size 30 i0 (.int .u64 0) 1 8 Try.underlying23 hi hz0 hz1 hz2 rfl (by decide) GW ?g1 _ acc.length (cellsW acc) rfl HOW.out (some ⟨wr.heap.size, 0, none⟩) 1 1 [.int .u64 (U z)] rfl HRD.out ?g2 ?g3 ?g4 ?g5 ?g6 ?_)
          case g1 => intro q u hq; match q, hq with | 0, hq => exact ⟨0, (Option.some.inj hq).symm⟩
          case g2 => intro u hu; simp at hu; subst hu; rfl
          case g3 => intro q u hq; match q, hq with | 0, hq => exact ⟨_, (Option.some.inj hq).symm⟩
          case g4 => unfold maxLen; omega
          case g5 => omega
          case g6 => exact hb6.size
          intro v' w7 hown7 hgrow _ hat
          have hb7 := hb6.grown hgrow hb6.size (fun q hq => (HOW.out.row.lt q hq).1)
          rw [← cellsW_snoc] at hown7
          clear hgrow hat hb6
          go_wp2_with fail
          go_roundw
          case rel => exact ⟨e, n' - P, c' - P, some ⟨b, o + P, none⟩, ld, acc ++ [z], by omega, by rw [HP.out, HP2.out], by simp, by omega, by omega, by omega, hs2, hdrop, by show _ ≤ _; rw [HP.out]; exact HM2.out, HG3, by rw [← HLN.out]; exact hown7, by rw [← HLN.out]; omega, hb7⟩
          case measure => simp [intOf]; omega
end Go.Proofs.Ytmooknaljkeaaaa.Tree
