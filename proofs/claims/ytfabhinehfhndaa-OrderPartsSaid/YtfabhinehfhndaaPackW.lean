/-
  The walks of pack.Put, pack.Get and pack.Fold: each returns what the plain mathematics says; for every number and text.
-/
import Derived.Test.YtfabhinehfhndaaProg
import Derived.Test.YtfabhinehfhndaaBas
import Derived.Test.YtfabhinehfhndaaPackM
set_option linter.unusedVariables false
set_option linter.unusedSimpArgs false
namespace Go.Proofs.Ytfabhinehfhndaa.Pack
open Go.RowKit Go.Proofs.Ytfabhinehfhndaa.Bv

theorem infoU8 : (Try.prog.info? 5).map (fun i => (i.zero, i.size, i.bytes)) = some (some (.int .u8 0), 1, 1) := by kernel_rfl
def cells (l : List UInt8) : List Value := l.map fun b => Value.int .u8 (b.toNat : Int)
theorem cells_snoc (l : List UInt8) (b : UInt8) : cells (l ++ [b]) = cells l ++ [Value.int .u8 (b.toNat : Int)] := by unfold cells; simp
theorem cells_get (l : List UInt8) (i : Nat) (h : i < l.length) : (cells l)[i]? = some (.int .u8 (l[i].toNat : Int)) := by unfold cells; simp [h]
def strOf (l : List UInt8) : ByteArray := ⟨l.toArray⟩
theorem strOf_size (l : List UInt8) : (strOf l).size = l.length := by
  show l.toArray.size = _
  simp
theorem strOf_list (l : List UInt8) : (strOf l).data.toList = l := rfl

theorem or128 (n : Nat) : bits BinOp.or IntKind.u8 ((n : Int) % 256) 128 = (((UInt8.ofNat (n % 128 + 128)).toNat : Nat) : Int) := by
  have e : ((n : Int) % 256) = ((n % 256 : Nat) : Int) := by omega
  have h1 : n % 256 < 256 := Nat.mod_lt _ (by decide)
  have key : ∀ x : Fin 256, (x.val ||| 128) = x.val % 128 + 128 := by decide +kernel
  have h2 := key ⟨n % 256, h1⟩
  simp only at h2
  rw [e, show (128 : Int) = ((128 : Nat) : Int) from rfl, (bits_nat .u8 8 (by decide) wraps_u8 _ _ (by omega) (by decide)).2, h2]
  simp only [UInt8.toNat_ofNat']
  omega

theorem conv_bytes (w : World) (base g n cap : Nat) (l : List UInt8) (hn : n = l.length) (h : w.ownsRow base 5 1 (.slice (some ⟨g, 0, none⟩) n cap) n (cells l)) :
    (convert 177 9 (.slice (some ⟨g, 0, none⟩) n cap)).run Try.prog w = .ok (.string (strOf l)) w := by
  subst hn
  refine run_convert_bytes_back (P := Try.prog) w 177 9 5 ⟨g, 0, none⟩ cap l Try.underlying177 Try.underlying5 Try.underlying9 ?_
  intro j hj
  rw [add0, h.cellAt j (by omega), cells_get l j hj]

set_option maxRecDepth 100000 in
theorem put_any (n : Nat) (hn : n < 18446744073709551616) (x : Int) (hx : x = n) (w : World) :
    Calls Try.prog 101 #[.int .u64 x] w fun e w' => e = .returned (.string (strOf (putL n))) ∧ Below w.heap.size w w' := by
  subst hx
  obtain ⟨i0, hi, hz0, hz1, hz2⟩ := info_parts infoU8
  have HN := Lib.hid (lt_pow hn)
  clear hn
  go_enter Try.func101, Try.ntmps101
  go_wp2_with fail
  go_loopw [0, 3] (fun x v wr => ∃ (k m : Nat) (acc : List UInt8), k ≤ 9 ∧ x = .int .u64 (m : Int) ∧ Hid (m < 128 ^ (k + 1)) ∧ Hid (acc ++ putF k m = putL n) ∧ wr.ownsRow w.heap.size 5 1 v acc.length (cells acc) ∧ Below w.heap.size w wr) (fun x _ _ => (intOf x).toNat)
  case atStart => exact ⟨9, n, [], Nat.le_refl _, rfl, HN, rfl, World.ownsRow_nil _ _ _ _, Below.refl _ _⟩
  case round =>
    obtain ⟨k, m, acc, hk, rfl, HM, HA, hown, hb⟩ := hrel
    by_cases hlt : 128 ≤ m
    · obtain ⟨k', rfl⟩ : ∃ k', k = k' + 1 := by
        cases k with
        | zero => have := HM.out; simp at this; omega
        | succ k' => exact ⟨k', rfl⟩
      obtain ⟨b, HB⟩ : ∃ b, Hid (b = UInt8.ofNat (m % 128 + 128)) := ⟨_, Lib.hid rfl⟩
      have hor := or128 m
      rw [← HB.out] at hor
      have HA2 : Hid ((acc ++ [b]) ++ putF k' (m / 128) = putL n) := by
        show _ = _
        rw [← HA.out, putF_ge (by omega), ← HB.out, List.append_assoc]; rfl
      have HM2 : Hid (m / 128 < 128 ^ (k' + 1)) := pow_lt_div HM.out
      have hal : acc.length ≤ 9 := by
        have h1 := (putL_len n).1
        have h2 := congrArg List.length HA2.out
        have h3 := (putF_len k' (m / 128)).2
        simp at h2
        omega
      have hbA := hb.alloc hb.size (.cells #[.int .u8 (b.toNat : Int)] 5)
      go_wp2_with (at_builtin; refine wpList_append_own _ rfl _ _ 177 rfl w.heap.size 5 i0 (.int .u8 0) 1 1 Try.underlying177 hi hz0 hz1 hz2 rfl (by decide) _ acc.length (cells acc) rfl (hown.alloc _) ⟨wr.heap.size, 0, none⟩ 1 1 [.int .u8 (b.toNat : Int)] rfl rfl ?d1 ?d2 ?d3 ?d4 ?d5 ?_)
      case d1 =>
        intro j u hj
        match j, hj with
        | 0, hj => simp at hj; subst hj; simp [Addr.add]
      case d2 => intro u hu; simp at hu; subst hu; rfl
      case d3 => unfold maxLen; omega
      case d4 => omega
      case d5 => have := hb.size; simp; omega
      intro v' w1 hown' hgrow _
      have hb1 := hbA.grown hgrow (by have := hb.size; simp; omega) (fun q hq => (hown.lt q hq).1)
      rw [← cells_snoc, show acc.length + 1 = (acc ++ [b]).length by simp] at hown'
      clear hgrow hown hbA hb
      go_wp2_with fail
      go_roundw
      case rel => exact ⟨k', m / 128, acc ++ [b], by omega, by go_num, HM2, HA2, hown', hb1⟩
      case measure => simp [intOf]; omega
    · have ha : acc ++ [UInt8.ofNat m] = putL n := by rw [← HA.out, putF_lt (by omega)]
      have hm8 : (UInt8.ofNat m).toNat = m := by rw [UInt8.toNat_ofNat']; omega
      have hal : acc.length ≤ 9 := by
        have h1 := (putL_len n).1
        have h2 := congrArg List.length ha
        simp at h2
        omega
      have H8 := Lib.hid hm8
      have HA2 := Lib.hid ha
      have hbA := hb.alloc hb.size (.cells #[.int .u8 (m : Int)] 5)
      clear ha hm8
      go_wp2_with (at_builtin; refine wpList_append_own _ rfl _ _ 177 rfl w.heap.size 5 i0 (.int .u8 0) 1 1 Try.underlying177 hi hz0 hz1 hz2 rfl (by decide) _ acc.length (cells acc) rfl (hown.alloc _) ⟨wr.heap.size, 0, none⟩ 1 1 [.int .u8 (m : Int)] rfl rfl ?c1 ?c2 ?c3 ?c4 ?c5 ?_)
      case c1 =>
        intro j u hj
        match j, hj with
        | 0, hj => simp at hj; subst hj; simp [Addr.add]
      case c2 => intro u hu; simp at hu; subst hu; rfl
      case c3 => unfold maxLen; omega
      case c4 => omega
      case c5 => have := hb.size; simp; omega
      intro v' w1 hown' hgrow _
      have hb1 := hbA.grown hgrow (by have := hb.size; simp; omega) (fun q hq => (hown.lt q hq).1)
      have hcc : cells acc ++ [Value.int .u8 (m : Int)] = cells (putL n) := by rw [← HA2.out, cells_snoc, H8.out]
      have hlen : acc.length + 1 = (putL n).length := by rw [← HA2.out]; simp
      rw [hcc, hlen] at hown'
      have hex : ∃ g cap, v' = .slice (some ⟨g, 0, none⟩) (putL n).length cap := by
        rcases hown'.2 with ⟨_, h⟩ | ⟨g, cap, cur, h, _⟩
        · omega
        · exact ⟨g, cap, h⟩
      obtain ⟨g, cap, hv⟩ := hex
      rw [hv] at hown' ⊢
      have hcv := conv_bytes w1 _ g _ cap (putL n) rfl hown'
      clear hv hgrow hown hbA hb hcc hlen hown'
      go_wp2_with fail
      go_ret
      exact ⟨rfl, hb1⟩

theorem ret_u64 {a b : Int} (h : a = b) : Ending.returned (.int .u64 a) = .returned (.int .u64 b) := by rw [h]
theorem xor_ones (n : Nat) (h : n < 18446744073709551616) : n ^^^ 18446744073709551615 = 18446744073709551615 - n := by
  have e : (BitVec.ofNat 64 n ^^^ BitVec.allOnes 64).toNat = (~~~(BitVec.ofNat 64 n)).toNat := by rw [BitVec.xor_allOnes]
  rw [BitVec.toNat_xor, BitVec.toNat_not, BitVec.toNat_ofNat, BitVec.toNat_allOnes, Nat.mod_eq_of_lt h] at e
  exact e
theorem fold_any (x : Int) (h0 : -9223372036854775808 ≤ x) (h1 : x ≤ 9223372036854775807) (w : World) :
    Calls Try.prog 102 #[.int .i64 x] w fun e w' => e = .returned (.int .u64 (foldN x)) ∧ w = w' := by
  by_cases hx : 0 ≤ x
  · go_enter Try.func102, Try.ntmps102
    go_wp2
    go_ret
    refine ⟨ret_u64 ?_, rfl⟩
    have e : x / 9223372036854775808 = ((0 : Nat) : Int) := by omega
    obtain ⟨m, rfl⟩ := Int.eq_ofNat_of_zero_le hx
    rw [e, show ((m : Int) * 2) = ((m * 2 : Nat) : Int) by omega, u64_xor_nat _ _ (by omega) (by omega), Nat.xor_zero]
    unfold foldN
    rw [if_pos hx]
    omega
  · go_enter Try.func102, Try.ntmps102
    go_wp2
    go_ret
    refine ⟨ret_u64 ?_, rfl⟩
    have hx' : ¬ 0 ≤ x := by omega
    have e : IntKind.u64.wrap (x / 9223372036854775808) = ((18446744073709551615 : Nat) : Int) := by rw [IntKind.wrap_u64]; omega
    have e2 : IntKind.u64.wrap (IntKind.u64.wrap x * 2) = (((2 * x + 18446744073709551616).toNat : Nat) : Int) := by rw [IntKind.wrap_u64, IntKind.wrap_u64]; omega
    rw [e, e2, u64_xor_nat _ _ (by omega) (by omega)]
    unfold foldN
    rw [if_neg hx']
    have e3 : (2 * x + 18446744073709551616).toNat ^^^ 18446744073709551615 = 18446744073709551615 - (2 * x + 18446744073709551616).toNat := by
      exact xor_ones _ (by omega)
    rw [e3]
    omega

theorem wraps_u64 (n : Int) (h₀ : 0 ≤ n) (h₁ : n < 2 ^ 64) : IntKind.u64.wrap n = n := by rw [IntKind.wrap_u64]; omega
theorem and127 (b : UInt8) : bits BinOp.and IntKind.u8 (b.toNat : Int) 127 = ((b.toNat % 128 : Nat) : Int) := by
  have h := bits_mask .u8 8 (by decide) wraps_u8 7 (by decide) (b.toNat : Int) (Int.natCast_nonneg _) (by have := b.toNat_lt; omega)
  simpa using h
/-- The step of Get: seven bits more. -/
theorem step_num (l : List UInt8) (b : UInt8) (k : Nat) (hk : k = l.length) (hk9 : k ≤ 9) :
    bits BinOp.or IntKind.u64 ((val l % 18446744073709551616 : Nat) : Int) (((b.toNat % 128 : Nat) : Int) * 2 ^ (7 * k) % 18446744073709551616) = ((val (l ++ [b]) % 18446744073709551616 : Nat) : Int) := by
  subst hk
  have hp : (128 : Nat) ^ l.length = 2 ^ (7 * l.length) := by rw [show (128 : Nat) = 2 ^ 7 from rfl, ← Nat.pow_mul]
  have hv := val_lt l
  have hle : (128 : Nat) ^ l.length ≤ 128 ^ 9 := Nat.pow_le_pow_right (by decide) hk9
  have hv2 : val l < 18446744073709551616 := Nat.lt_of_lt_of_le hv (Nat.le_trans hle (by decide))
  rw [val_snoc, Nat.mod_eq_of_lt hv2, hp]
  have hb : b.toNat % 128 < 128 := Nat.mod_lt _ (by decide)
  generalize b.toNat % 128 = d at *
  obtain ⟨r, hr⟩ : ∃ r, 64 = 7 * l.length + r := ⟨64 - 7 * l.length, by omega⟩
  have e64 : 18446744073709551616 = 2 ^ (7 * l.length) * 2 ^ r := by rw [← Nat.pow_add, ← hr]
  have e1 : ((d : Int) * 2 ^ (7 * l.length) % 18446744073709551616) = ((2 ^ (7 * l.length) * (d % 2 ^ r) : Nat) : Int) := by
    rw [← Nat.mul_mod_mul_left, ← e64, Int.natCast_emod, Int.natCast_mul, Int.natCast_pow, Int.mul_comm]
    rfl
  rw [hp] at hv
  have h2 : 2 ^ (7 * l.length) * (d % 2 ^ r) < 18446744073709551616 := by
    rw [e64]
    exact Nat.mul_lt_mul_of_pos_left (Nat.mod_lt _ (Nat.two_pow_pos _)) (Nat.two_pow_pos _)
  have e2 : (val l + 2 ^ (7 * l.length) * d) % 18446744073709551616 = 2 ^ (7 * l.length) * (d % 2 ^ r) + val l := by
    rw [e64, Nat.mod_mul, Nat.add_mul_mod_self_left, Nat.mod_eq_of_lt hv, Nat.add_mul_div_left _ _ (Nat.two_pow_pos _), Nat.div_eq_of_lt hv, Nat.zero_add, Nat.add_comm]
  rw [e1, e2, (bits_nat .u64 64 (by decide) wraps_u64 _ _ hv2 h2).2]
  rw [Nat.two_pow_add_eq_or_of_lt hv, Nat.or_comm]

theorem ret_get {a a' : Int} {b b' : ByteArray} {c c' : Int} (h1 : a = a') (h2 : b = b') (h3 : c = c') : Ending.returned (.tuple #[.int .u64 a, .string b, .int .i64 c]) = .returned (.tuple #[.int .u64 a', .string b', .int .i64 c']) := by rw [h1, h2, h3]
def GetPost (l : List UInt8) (w : World) (e : Ending) (w' : World) : Prop :=
  ∃ (n : Nat) (rest : List UInt8) (k : Int), GetIs l n rest k ∧ e = .returned (.tuple #[.int .u64 (n : Int), .string (strOf rest), .int .i64 k]) ∧ Below w.heap.size w w'

set_option maxRecDepth 100000 in
theorem get_any (s : ByteArray) (hs : s.size ≤ 9223372036854775807) (w : World) : Calls Try.prog 105 #[.string s] w (GetPost s.data.toList w) := by
  go_enter Try.func105, Try.ntmps105
  go_wp2_with fail
  go_loopw [5, 6] (fun v i wr => ∃ k : Nat, k ≤ s.size ∧ k ≤ 10 ∧ i = .int .i64 k ∧ v = .int .u64 ((val (s.data.toList.take k) % 18446744073709551616 : Nat) : Int) ∧ Hid (∀ i (h : i < s.data.toList.length), i < k → 128 ≤ (s.data.toList[i]).toNat) ∧ Below w.heap.size w wr) (fun _ i _ => s.size - (intOf i).toNat)
  case atStart => exact ⟨0, Nat.zero_le _, Nat.zero_le _, rfl, rfl, fun i h h2 => absurd h2 (by omega), Below.refl _ _⟩
  case round =>
    obtain ⟨k, hk, hk10, rfl, rfl, HH, hb⟩ := hrel
    by_cases hlt : k < s.size
    · by_cases h10 : k < 10
      · have hkl : k < s.data.toList.length := by simpa using hlt
        have hsk : s[k] = s.data.toList[k] := rfl
        have hst := step_num (s.data.toList.take k) s[k] k (by simp; omega) (by omega)
        rw [hsk, ← List.take_succ_eq_append_getElem hkl, ← hsk] at hst
        have EX : bits BinOp.or IntKind.u64 ((val (s.data.toList.take k) % 18446744073709551616 : Nat) : Int) (IntKind.u64.wrap (IntKind.u64.wrap (bits BinOp.and IntKind.u8 (s[k].toNat : Int) 127) * 2 ^ (7 * k))) = ((val (s.data.toList.take (k + 1)) % 18446744073709551616 : Nat) : Int) := by
          rw [← hst, and127, IntKind.wrap_u64, IntKind.wrap_u64]
          congr 3
          omega
        obtain ⟨M', HM'⟩ : ∃ M', Hid (val (s.data.toList.take (k + 1)) % 18446744073709551616 = M') := ⟨_, Lib.hid rfl⟩
        have hM' : M' < 18446744073709551616 := by rw [← HM'.out]; exact Nat.mod_lt _ (by decide)
        rw [HM'.out] at EX
        generalize val (s.data.toList.take k) % 18446744073709551616 = M at EX ⊢
        have HB := Lib.hid hM'
        clear hsk hst hM'
        by_cases h128 : 128 ≤ s[k].toNat
        · go_wp2_with fail
          go_roundw
          case rel =>
            refine ⟨k + 1, by omega, by omega, by go_num, by rw [HM'.out], ?_, hb⟩
            intro i h hi
            by_cases hik : i = k
            · subst hik; exact h128
            · exact HH.out i h (by omega)
          case measure => simp [intOf]; omega
        · have hk1 : k + 1 ≤ s.size := hlt
          have hk2 : (0 : Int) ≤ (k : Int) + 1 := by omega
          have hk3 : (k : Int) + 1 ≤ (s.size : Int) := by omega
          have hk4 : IntKind.i64.wrap ((k : Int) + 1) = (k : Int) + 1 := IntWalk.i64_in _ (by omega)
          have hk5 : ((k : Int) + 1).toNat = k + 1 := by omega
          by_cases hp : putL M' = s.data.toList.take (k + 1)
          · have hq : ((strOf (putL M')).toList == (s.extract 0 (k + 1)).toList) = true := bytes_true (bytes_ext (by rw [strOf_list, Lib.extract_data, List.drop_zero, hp]; rfl))
            have HP := Lib.hid hp
            clear hp
            go_wp2_with fail
            go_region_held3 (fun wx => Below w.heap.size w wx) (first | exact hb.drew | exact hb.drew.trans (by assumption) | assumption) ((go_at_call 101; refine (put_any M' HB.out _ rfl _).mono ?_; rintro e w' ⟨rfl, hb2⟩; have hb3 := hb.drew.trans (hb2.mono hb.size)))
            clear hb hb2 hq
            go_wp2_with fail
            go_quiet (fail)
            go_wp2_with fail
            go_ret3
            refine ⟨M', s.data.toList.drop (k + 1), 0, .inl ⟨k, h10, hkl, HH.out, fun _ => by have := h128; show s[k].toNat < 128; omega, .inl ⟨by rw [HM'.out]; exact HP.out, HM'.out.symm, rfl, rfl⟩⟩, ret_get rfl (bytes_ext ?_) rfl, below_drewN (by assumption) _⟩
            rw [strOf_list, Lib.extract_data, List.take_of_length_le (by simp)]
          · have hq : ((strOf (putL M')).toList == (s.extract 0 (k + 1)).toList) = false := bytes_false (fun h => hp (by
              have h2 := congrArg (fun x : ByteArray => x.data.toList) h
              simp only [strOf_list, Lib.extract_data, List.drop_zero] at h2
              exact h2))
            have HP := Lib.hid hp
            clear hp
            go_wp2_with fail
            go_region_held3 (fun wx => Below w.heap.size w wx) (first | exact hb.drew | exact hb.drew.trans (by assumption) | assumption) ((go_at_call 101; refine (put_any M' HB.out _ rfl _).mono ?_; rintro e w' ⟨rfl, hb2⟩; have hb3 := hb.drew.trans (hb2.mono hb.size)))
            clear hb hb2 hq
            go_wp2_with fail
            go_ret3
            exact ⟨0, [], 4, .inl ⟨k, h10, hkl, HH.out, fun _ => by have := h128; show s[k].toNat < 128; omega, .inr ⟨by rw [HM'.out]; exact HP.out, rfl, rfl, rfl⟩⟩, ret_get rfl rfl rfl, by assumption⟩
      · have hk10' : k = 10 := by omega
        subst hk10'
        have hlen : ¬ (s.size : Int) < 10 := by omega
        go_wp2_with fail
        go_ret3
        exact ⟨0, [], 4, .inr (.inr ⟨by simp; have e : s.data.size = s.size := rfl; omega, fun i h hi => HH.out i h hi, rfl, rfl, rfl⟩), ret_get rfl rfl rfl, hb⟩
    · have hks : k = s.size := by omega
      have hall : ∀ i (h : i < s.data.toList.length), i < k := by
        intro i h
        have e : s.data.toList.length = s.size := by simp
        omega
      have e : s.data.toList.length = s.size := by simp
      by_cases h10 : s.size < 10
      · have HE := Lib.hid e
        have HA := Lib.hid hall
        have HK := Lib.hid hks
        clear e hall hks
        have hlen : (s.size : Int) < 10 := by omega
        have hge : (s.size : Int) ≤ (k : Int) := by omega
        go_wp2_with fail
        go_ret3
        exact ⟨0, [], 3, .inr (.inl ⟨by have := HE.out; omega, fun i h => HH.out i h (HA.out i h), rfl, rfl, rfl⟩), ret_get rfl rfl rfl, hb⟩
      · have HE := Lib.hid e
        have HA := Lib.hid hall
        have HK := Lib.hid hks
        clear e hall hks
        have hlen : ¬ (s.size : Int) < 10 := by omega
        have hge : (s.size : Int) ≤ (k : Int) := by omega
        go_wp2_with fail
        go_ret3
        exact ⟨0, [], 4, .inr (.inr ⟨by have := HE.out; omega, fun i h hi => HH.out i h (HA.out i h), rfl, rfl, rfl⟩), ret_get rfl rfl rfl, hb⟩
end Go.Proofs.Ytfabhinehfhndaa.Pack
