/-
  The walks of tree.Leaf, Pair, split and root.
-/
import Derived.Test.YtmooknaljkeaaaaMixW
import Derived.Test.YtmooknaljkeaaaaTreeM
import Derived.Test.YtmooknaljkeaaaaMem
import Derived.Test.YtmooknaljkeaaaaOpen
import Derived.Test.YtmooknaljkeaaaaShelf
set_option linter.unusedVariables false
namespace Go.Proofs.Ytmooknaljkeaaaa.Tree
open Go.RowKit Go.Proofs.Ytmooknaljkeaaaa Go.Proofs.Ytmooknaljkeaaaa.Bv Go.Proofs.Ytmooknaljkeaaaa.Mark

theorem xor_num (a b : W) : bits .xor .u64 (U a) (U b) = U (a ^^^ b) := by
  refine eq64 (bits64_nonneg _ _ _) (bits64_lt _ _ _) ?_
  rw [of_xor64, of_U, of_U]
theorem rot_num (b : W) : bits .or .u64 (IntKind.u64.wrap (U b * 4294967296)) (U b / 4294967296) = U (rot32 b) := by
  refine eq64 (bits64_nonneg _ _ _) (bits64_lt _ _ _) ?_
  have e : U b / 4294967296 = U b / 2 ^ 32 := rfl
  rw [of_or64, of_wrap64, of_mul, of_U, e, of_shr (n := 64) (U b) 32 (U_nonneg b) (by have := U64_lt b; omega), of_U]
  unfold rot32
  have e2 : b * BitVec.ofInt 64 4294967296 = b <<< 32 := by
    apply BitVec.eq_of_toNat_eq
    have e3 : (BitVec.ofInt 64 4294967296).toNat = 4294967296 := by decide
    rw [BitVec.toNat_mul, BitVec.toNat_shiftLeft, e3, Nat.shiftLeft_eq]
  rw [e2]
set_option maxRecDepth 100000 in
theorem rot_any (b : W) (w : World) : Calls Try.prog 50 #[.int .u64 (U b), .int .i64 32] w fun e w' => e = .returned (.int .u64 (U (rot32 b))) ∧ w = w' := by
  have h1 : bits .and .u64 32 63 = 32 := by decide
  have h2 := rot_num b
  go_enter Try.func50, Try.ntmps50
  go_wp2_with fail
  go_ret
  exact ⟨rfl, rfl⟩
theorem pair_any (a b : W) (w : World) : Calls Try.prog 20 #[.int .u64 (U a), .int .u64 (U b)] w fun e w' => e = .returned (.int .u64 (U (pairF a b))) ∧ w = w' := by
  have h1 := xor_num a (rot32 b)
  have h2 : bits .xor .u64 (U (a ^^^ rot32 b)) 1 = U (a ^^^ rot32 b ^^^ 1#64) := xor_num (a ^^^ rot32 b) 1#64
  have h3 := xor_num (mix (a ^^^ rot32 b ^^^ 1#64)) b
  have hr := rot_any b
  have hm1 := mix_any _ (a ^^^ rot32 b ^^^ 1#64) rfl
  have hm2 := mix_any _ (mix (a ^^^ rot32 b ^^^ 1#64) ^^^ b) rfl
  unfold pairF
  generalize mix (mix (a ^^^ rot32 b ^^^ 1#64) ^^^ b) = z at *
  generalize mix (a ^^^ rot32 b ^^^ 1#64) ^^^ b = y at *
  generalize mix (a ^^^ rot32 b ^^^ 1#64) = x at *
  generalize a ^^^ rot32 b ^^^ 1#64 = v at *
  generalize a ^^^ rot32 b = u at *
  generalize rot32 b = t at *
  go_enter Try.func20, Try.ntmps20
  go_wp2_with fail
  refine (hr _).mono ?_
  rintro e w' ⟨rfl, rfl⟩
  go_wp2_with fail
  refine (hm1 _).mono ?_
  rintro e w' ⟨rfl, rfl⟩
  go_wp2_with fail
  refine (hm2 _).mono ?_
  rintro e w' ⟨rfl, rfl⟩
  go_wp2_with fail
  go_ret
  exact ⟨rfl, rfl⟩
theorem leaf_step (l : List UInt8) (n : Nat) (b : UInt8) (m : W) : (l ++ [b]).foldl (fun m b => mix (m ^^^ BitVec.ofNat 64 b.toNat)) m = mix (l.foldl (fun m b => mix (m ^^^ BitVec.ofNat 64 b.toNat)) m ^^^ BitVec.ofNat 64 b.toNat) := by rw [List.foldl_append]; rfl
/-- The mark behind the first k bytes. -/
def upto (s : ByteArray) (k : Nat) : W := (s.data.toList.take k).foldl (fun m b => mix (m ^^^ BitVec.ofNat 64 b.toNat)) (mix (BitVec.ofNat 64 s.size))
theorem upto_succ (s : ByteArray) (k : Nat) (h : k < s.size) : upto s (k + 1) = mix (upto s k ^^^ BitVec.ofNat 64 s[k].toNat) := by
  unfold upto
  have hk : k < s.data.toList.length := by simpa using h
  rw [List.take_succ_eq_append_getElem hk, leaf_step _ k]
  rfl
theorem upto_all (s : ByteArray) : upto s s.size = leafF s.data.toList := by
  unfold upto leafF
  rw [List.take_of_length_le (by simp)]
  rfl
theorem U_nat (n : Nat) (h : n < 18446744073709551616) : ((n : Nat) : Int) = U (BitVec.ofNat 64 n) := by
  unfold U
  rw [BitVec.toNat_ofNat, Nat.mod_eq_of_lt h]
set_option maxRecDepth 100000 in
theorem leaf_any (s : ByteArray) (hs : s.size ≤ 9223372036854775807) (w : World) : Calls Try.prog 23 #[.string s] w fun e w' => e = .returned (.int .u64 (U (leafF s.data.toList))) ∧ ∃ q, w' = w.drewN q := by
  have h0 : upto s 0 = mix (BitVec.ofNat 64 s.size) := rfl
  have hU := U_nat s.size (by omega)
  have hm := mix_any _ (BitVec.ofNat 64 s.size) hU
  have hall := Lib.hid (upto_all s)
  rw [← h0] at hm
  have H0 := Lib.hid h0
  have hw : IntKind.u64.wrap (s.size : Int) = (s.size : Int) := by rw [IntKind.wrap_u64]; omega
  clear hU h0
  go_enter Try.func23, Try.ntmps23
  go_wp2_with fail
  refine (hm _).mono ?_
  rintro e w' ⟨rfl, rfl⟩
  clear hw
  go_wp2_with fail
  go_loop [3, 11] (fun m i => ∃ k : Nat, k ≤ s.size ∧ i = .int .i64 (k : Int) ∧ m = .int .u64 (U (upto s k))) (fun _ i => s.size - (intOf i).toNat)
  case atStart => exact ⟨0, Nat.zero_le _, rfl, rfl⟩
  case round =>
    obtain ⟨k, hk, rfl, rfl⟩ := hrel
    by_cases hlt : k < s.size
    · have hsu := upto_succ s k hlt
      have hx := xor_num (upto s k) (BitVec.ofNat 64 s[k].toNat)
      rw [← U_nat s[k].toNat (by have := s[k].toNat_lt; omega)] at hx
      have hm := mix_any _ (upto s k ^^^ BitVec.ofNat 64 s[k].toNat) rfl
      rw [← hsu] at hm
      have HS := Lib.hid hsu
      clear hsu
      have hwb : IntKind.u64.wrap (s[k].toNat : Int) = (s[k].toNat : Int) := by have := s[k].toNat_lt; rw [IntKind.wrap_u64]; omega
      obtain ⟨m2, HM2⟩ : ∃ m2, Hid (upto s (k + 1) = m2) := ⟨_, Lib.hid rfl⟩
      rw [HM2.out] at hm
      clear HS
      generalize upto s k ^^^ BitVec.ofNat 64 s[k].toNat = x at *
      generalize upto s k = m1 at *
      go_wp2_with fail
      refine (hm _).mono ?_
      rintro e w' ⟨rfl, rfl⟩
      go_wp2_with fail
      go_round
      case rel => exact ⟨k + 1, by omega, by go_num, by rw [HM2.out]⟩
      case measure => simp [intOf]; omega
    · obtain rfl : k = s.size := by omega
      rw [hall.out]
      go_wp2_with fail
      go_ret
      exact ⟨rfl, 0, rfl⟩
theorem log_len (n : Nat) (h : 1 ≤ n) (h2 : n < 256) : Lib.bitLen n = Nat.log2 n + 1 := by
  have key : ∀ n : Fin 256, n.val = 0 ∨ Lib.bitLen n.val = Nat.log2 n.val + 1 := by decide +kernel
  rcases key ⟨n, h2⟩ with h0 | h0
  · simp only at h0; omega
  · exact h0
set_option maxRecDepth 100000 in
theorem split_any (n : Nat) (h2 : 2 ≤ n) (hn : n ≤ 256) (w : World) : Calls Try.prog 74 #[.int .i64 (n : Int)] w fun e w' => e = .returned (.int .i64 (splitN n : Int)) ∧ w = w' := by
  have hl := log_len (n - 1) (by omega) (by omega)
  have hb := Try.bits_Len ((n : Int) - 1)
  have hw : IntKind.u64.wrap ((n : Int) - 1) = (n : Int) - 1 := by rw [IntKind.wrap_u64]; omega
  have ht : ((n : Int) - 1).toNat = n - 1 := by omega
  rw [ht, hl] at hb
  have hlog : Nat.log2 (n - 1) < 8 := by
    rw [Nat.log2_lt (by omega)]; omega
  unfold splitN
  generalize Nat.log2 (n - 1) = k at *
  have hp : 2 ^ k < 9223372036854775808 := Nat.lt_of_lt_of_le (Nat.pow_lt_pow_right (a := 2) (by decide) hlog) (by decide)
  have hwp : IntKind.i64.wrap (2 ^ k : Int) = ((2 ^ k : Nat) : Int) := by
    have e : (2 ^ k : Int) = ((2 ^ k : Nat) : Int) := by simp
    rw [e]
    generalize 2 ^ k = P at hp
    exact IntWalk.i64_in _ (by omega)
  clear hl ht hp
  have hk1 : ((k + 1 : Nat) : Int) = (k : Int) + 1 := by omega
  rw [hk1] at hb
  go_enter Try.func74, Try.ntmps74
  go_wp2_with fail
  refine (hb _ (by omega) (by omega)).mono ?_
  rintro e w' ⟨rfl, rfl⟩
  clear hb hk1
  go_wp2_with fail
  go_ret
  exact ⟨rfl, rfl⟩
/-- Texts that lie one behind the other. -/
def cellsS (l : List ByteArray) : List Value := l.map Value.string
theorem cellsS_len (l : List ByteArray) : (cellsS l).length = l.length := by unfold cellsS; simp
theorem cellsS_get (l : List ByteArray) (i : Nat) (h : i < l.length) : (cellsS l)[i]? = some (.string l[i]) := by unfold cellsS; simp [h]
def lists (l : List ByteArray) : List (List UInt8) := l.map fun s => s.data.toList
def Short (l : List ByteArray) : Prop := ∀ s ∈ l, s.size ≤ 9223372036854775807
theorem lists_len (l : List ByteArray) : (lists l).length = l.length := by unfold lists; simp
theorem Rd.cut {w : World} {b o n : Nat} {l : List ByteArray} (h : Rd w 1 (some ⟨b, o, none⟩) n (cellsS l)) (k : Nat) (hk : k ≤ n) :
    Rd w 1 (some ⟨b, o, none⟩) k (cellsS (l.take k)) ∧ Rd w 1 (some ⟨b, o + k, none⟩) (n - k) (cellsS (l.drop k)) := by
  have hl : l.length = n := by have := h.1; rw [cellsS_len] at this; omega
  refine ⟨⟨by rw [cellsS_len, List.length_take]; omega, fun h0 => ?_⟩, ⟨by rw [cellsS_len, List.length_drop]; omega, fun h0 => ?_⟩⟩
  · obtain ⟨b', o', e, hc⟩ := h.2 (by omega)
    refine ⟨b', o', e, fun j u hu => hc j u ?_⟩
    unfold cellsS at hu ⊢
    rw [List.getElem?_map, List.getElem?_take] at hu
    rw [List.getElem?_map]
    split at hu
    · exact hu
    · cases hu
  · obtain ⟨b', o', e, hc⟩ := h.2 (by omega)
    injection e with e
    injection e with e1 e2
    subst e1; subst e2
    refine ⟨b, o + k, rfl, fun j u hu => ?_⟩
    rw [Nat.add_assoc]
    refine hc (k + j) u ?_
    unfold cellsS at hu ⊢
    rw [List.getElem?_map, List.getElem?_drop] at hu
    rw [List.getElem?_map]
    exact hu
theorem quiet_more {P : Program} {f : FuncId} {args : Array Value} {w : World} {n : Nat} {v : Value}
    (h : Calls P f args (w.drewN n) fun e w' => e = .returned v ∧ ∃ q, w' = (w.drewN n).drewN q) : Calls P f args (w.drewN n) fun e w'' => e = .returned v ∧ ∃ m, w'' = w.drewN m :=
  h.mono fun _ _ ⟨he, q, hm⟩ => ⟨he, n + q, by rw [hm]; simp⟩
set_option maxRecDepth 100000 in
set_option maxHeartbeats 1000000 in
theorem root_any (f : Nat) : ∀ (A : Option Addr) (n c : Nat) (l : List ByteArray) (w : World), n ≤ f → n ≤ 256 → n ≤ c → c ≤ 9223372036854775807 → Short l → Rd w 1 A n (cellsS l) →
    Calls Try.prog 48 #[.slice A n c] w fun e w' => e = .returned (.int .u64 (U (rootL (lists l)))) ∧ ∃ q, w' = w.drewN q := by
  induction f with
  | zero =>
    intro A n c l w hf h256 hnc hc hs hr
    obtain rfl : n = 0 := by omega
    have hl : l = [] := List.eq_nil_of_length_eq_zero (by have := hr.1; rw [cellsS_len] at this; omega)
    subst hl
    go_enter Try.func48, Try.ntmps48
    go_wp2_with fail
    go_ret
    exact ⟨rfl, 0, rfl⟩
  | succ f ih =>
    intro A n c l w hf h256 hnc hc hs hr
    have hl : l.length = n := by have := hr.1; rw [cellsS_len] at this; omega
    by_cases h0 : n = 0
    · subst h0
      have hl : l = [] := List.eq_nil_of_length_eq_zero hl
      subst hl
      go_enter Try.func48, Try.ntmps48
      go_wp2_with fail
      go_ret
      exact ⟨rfl, 0, rfl⟩
    · by_cases h1 : n = 1
      · subst h1
        obtain ⟨b, o, rfl, hc⟩ := hr.2 (by omega)
        obtain ⟨s, rfl⟩ : ∃ s, l = [s] := by
          match l, hl with
          | [s], _ => exact ⟨s, rfl⟩
        have hx := hc 0 _ rfl
        have hleaf := leaf_any s (hs s (by simp)) w
        rw [show rootL (lists [s]) = leafF s.data.toList from rfl]
        simp only [Nat.add_zero] at hx
        generalize leafF s.data.toList = z at *
        clear hc ih hr hl h0
        go_enter Try.func48, Try.ntmps48
        go_wp2_with fail
        refine hleaf.mono ?_
        rintro e w' ⟨rfl, q, rfl⟩
        go_wp2_with fail
        go_ret
        exact ⟨rfl, q, rfl⟩
      · obtain ⟨b, o, rfl, _⟩ := hr.2 (by omega)
        have h2 : 2 ≤ n := by omega
        have hsp := split_lt h2
        have hspl := split_any n h2 h256 w
        have htwo := root_two (lists l) (by rw [lists_len, hl]; exact h2)
        rw [lists_len, hl] at htwo
        have hcut := Rd.cut hr (splitN n) (by omega)
        have ht : lists (l.take (splitN n)) = (lists l).take (splitN n) := by unfold lists; rw [List.map_take]
        have hd : lists (l.drop (splitN n)) = (lists l).drop (splitN n) := by unfold lists; rw [List.map_drop]
        have c1 := fun a => ih (some ⟨b, o, none⟩) (splitN n) c (l.take (splitN n)) (w.drewN a) (by omega) (by omega) (by omega) hc (fun s h => hs s (List.mem_of_mem_take h)) (hcut.1.drewN a)
        have c2 := fun a => ih (some ⟨b, o + splitN n, none⟩) (n - splitN n) (c - splitN n) (l.drop (splitN n)) (w.drewN a) (by omega) (by omega) (by omega) (by omega) (fun s h => hs s (List.mem_of_mem_drop h)) (hcut.2.drewN a)
        rw [htwo]
        rw [ht] at c1
        rw [hd] at c2
        have hp := pair_any (rootL ((lists l).take (splitN n))) (rootL ((lists l).drop (splitN n)))
        generalize pairF (rootL ((lists l).take (splitN n))) (rootL ((lists l).drop (splitN n))) = z at *
        generalize rootL ((lists l).take (splitN n)) = x at *
        generalize rootL ((lists l).drop (splitN n)) = y at *
        clear htwo ht hd hcut ih hr hl h0 h1
        generalize splitN n = m at *
        have hz0 : ((n : Int) == 0) = false := by rw [beq_eq_false_iff_ne]; omega
        have hz1 : ((n : Int) == 1) = false := by rw [beq_eq_false_iff_ne]; omega
        go_enter Try.func48, Try.ntmps48
        go_wp2_with fail
        refine hspl.mono ?_
        rintro e w' ⟨rfl, rfl⟩
        go_wp2_with fail
        go_quiet ((first | (go_at_call 48; first | (with_reducible exact quiet_more (c1 _)) | (with_reducible exact quiet_more (c2 _))) | (go_at_call 20; exact quiet_of (hp _))))
        go_wp2_with fail
        go_ret
        exact ⟨rfl, _, rfl⟩
end Go.Proofs.Ytmooknaljkeaaaa.Tree
