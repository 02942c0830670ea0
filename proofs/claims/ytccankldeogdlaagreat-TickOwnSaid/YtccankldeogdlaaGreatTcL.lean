import Derived.Test.YtccankldeogdlaaGreatProg
import Derived.Test.YtccankldeogdlaaGreatBas
import Derived.Test.YtccankldeogdlaaGreatMarkM
import Derived.Lib.BitFns
import Derived.Test.YtccankldeogdlaaGreatShelf
import Derived.Lib.Builder
import Derived.Lib.AppendStr
import Derived.Lib.UnsafeStr
import Derived.Laws.Externs
import Derived.Test.YtccankldeogdlaaGreatGra
import Derived.Test.YtccankldeogdlaaGreatGox
import Derived.Test.YtccankldeogdlaaGreatGolR
import Derived.Test.YtccankldeogdlaaGreatPpt
set_option linter.unusedVariables false
set_option linter.unusedSimpArgs false
set_option maxRecDepth 100000
set_option maxHeartbeats 4000000
namespace Go.Proofs.YtccankldeogdlaaGreat
end Go.Proofs.YtccankldeogdlaaGreat
set_option linter.unusedVariables false
set_option linter.unusedSimpArgs false
namespace Go.Proofs.YtccankldeogdlaaGreat.Mark
open Go.RowKit Go.Proofs.YtccankldeogdlaaGreat.Bv

theorem ret_u64 {a b : Int} (h : a = b) : Ending.returned (.int .u64 a) = .returned (.int .u64 b) := by rw [h]

theorem wrap_u (x : Int) : IntKind.u64.wrap x = U (BitVec.ofInt 64 x) := by
 refine eq64 ?_ ?_ (of_wrap64 x)
 ·rw [IntKind.wrap_u64]; omega
 ·rw [IntKind.wrap_u64]; omega
theorem add_num (a : B64) : IntKind.u64.wrap (U a + 11400714819323198485) = U (a + gold) := by
 rw [wrap_u, of_add, of_U]; rfl
theorem mul1_num (a : B64) : IntKind.u64.wrap (U a * 13787848793156543929) = U (a * c1) := by
 rw [wrap_u, of_mul, of_U]; rfl
theorem mul2_num (a : B64) : IntKind.u64.wrap (U a * 10723151780598845931) = U (a * c2) := by
 rw [wrap_u, of_mul, of_U]; rfl
theorem xs_num (k : Nat) (a : B64) : bits BinOp.xor IntKind.u64 (U a) (U a / 2 ^ k) = U (xs k a) := by
 refine eq64 (bits64_nonneg _ _ _) (bits64_lt _ _ _) ?_
 rw [of_xor64, of_shr (n := 64) (U a) k (U_nonneg a) (by have := U64_lt a; omega), of_U]
 rfl
theorem xs30 (a : B64) : bits BinOp.xor IntKind.u64 (U a) (U a / 1073741824) = U (xs 30 a) := xs_num 30 a
theorem xs27 (a : B64) : bits BinOp.xor IntKind.u64 (U a) (U a / 134217728) = U (xs 27 a) := xs_num 27 a
theorem xs31 (a : B64) : bits BinOp.xor IntKind.u64 (U a) (U a / 2147483648) = U (xs 31 a) := xs_num 31 a
theorem mix_any (x : Int) (n : B64) (hx : x = U n) (w : World) :
  Calls Tryz.prog 67 #[.int .u64 x] w fun e w' => e = .returned (.int .u64 (U (mix n))) ∧ w = w' := by
 subst hx
 go_enter Tryz.func67, Tryz.ntmps67
 go_wp2
 go_ret
 refine ⟨ret_u64 ?_, rfl⟩
 rw [add_num, xs30, mul1_num, xs27, mul2_num, xs31]
 rfl

end Go.Proofs.YtccankldeogdlaaGreat.Mark
namespace Go.Proofs.YtccankldeogdlaaGreat
end Go.Proofs.YtccankldeogdlaaGreat
set_option linter.unusedVariables false
set_option linter.unusedSimpArgs false
namespace Go.Proofs.YtccankldeogdlaaGreat.Mark
open Go.RowKit Go.Proofs.YtccankldeogdlaaGreat.Bv


theorem turn_any (x y : Int) (m n : B64) (hx : x = U m) (hy : y = U n) (w : World) :
  Calls Tryz.prog 68 #[.int .u64 x, .int .u64 y] w fun e w' => e = .returned (.int .u64 (U (turnF mix m n))) ∧ w = w' := by
 subst hx hy
 go_enter Tryz.func68, Tryz.ntmps68
 go_wp2_with (go_at_call 67; refine (mix_any _ n rfl _).mono ?_; rintro e w' ⟨rfl, rfl⟩)
 go_ret
 exact ⟨ret_u64 (by refine eq64 (bits64_nonneg _ _ _) (bits64_lt _ _ _) ?_; rw [of_xor64, of_U, of_U]; rfl), rfl⟩
def Sl (w : World) (a : Option Addr) (n : Nat) (zs : List B64) : Prop :=
 n = zs.length ∧ n ≤ 9223372036854775807 ∧ (zs = [] ∨ ∃ b off, a = some ⟨b, off, none⟩ ∧ ∀ i (h : i < zs.length), w.cell? ⟨b, off + i, none⟩ = some (.int .u64 (U zs[i])))

def alls (zss : List (List B64)) (m : B64) : B64 := zss.foldl (fun m l => allF mix l m) m
theorem alls_snoc (zss : List (List B64)) (l : List B64) (m : B64) : alls (zss ++ [l]) m = allF mix l (alls zss m) := by unfold alls; rw [List.foldl_append]; rfl
theorem take_snoc {α : Type} (l : List α) (k : Nat) (h : k < l.length) : l.take (k + 1) = l.take k ++ [l[k]] := List.take_succ_eq_append_getElem h

theorem all_any (b c : Nat) (vs : List (Option Addr × Nat × Nat)) (zss : List (List B64)) (w : World) (hn : vs.length = zss.length) (hc : c ≤ 100) (hcv : vs.length ≤ 100)
  (hcell : ∀ i (h : i < vs.length), w.cell? ⟨b, i, none⟩ = some (.slice vs[i].1 vs[i].2.1 vs[i].2.2)) (hsl : ∀ i (h : i < vs.length) (h' : i < zss.length), Sl w vs[i].1 vs[i].2.1 zss[i]) :
  Calls Tryz.prog 47 #[.slice (some ⟨b, 0, none⟩) vs.length c] w fun e w' => e = .returned (.int .u64 (U (alls zss 0#64))) ∧ w = w' := by
 obtain ⟨N, HN⟩ : ∃ N, Hid (N = vs.length) := ⟨_, Lib.hid rfl⟩
 have HC := Lib.hid hcell
 have HS := Lib.hid hsl
 have HL := Lib.hid hn
 rw [← HN.out] at hcv ⊢
 clear hcell hsl hn
 go_enter Tryz.func47, Tryz.ntmps47
 go_wp2
 go_loop [3, 10] (fun v i => ∃ k : Nat, k ≤ N ∧ i = .int .i64 k ∧ v = .int .u64 (U (alls (zss.take k) 0#64))) (fun _ i => N - (intOf i).toNat)
 case atStart => exact ⟨0, Nat.zero_le _, rfl, rfl⟩
 case round =>
  obtain ⟨k, hk, rfl, rfl⟩ := hrel
  by_cases hlt : k < N
  ·have hkv : k < vs.length := by have := HN.out; omega
   have hkz : k < zss.length := by have := HL.out; omega
   have h1 := HC.out k hkv
   have h2 := HS.out k hkv hkz
   obtain ⟨l, HZ⟩ : ∃ l, Hid (zss[k] = l) := ⟨_, Lib.hid rfl⟩
   rw [HZ.out] at h2
   generalize vs[k].1 = a at h1 h2
   generalize vs[k].2.1 = n at h1 h2
   generalize vs[k].2.2 = c' at h1 h2
   obtain ⟨h3, h4, h5⟩ := h2
   have HE := Lib.hid h3
   clear h3
   generalize hM : alls (zss.take k) 0#64 = M
   have hM' : alls (zss.take (k + 1)) 0#64 = allF mix l M := by rw [take_snoc _ _ hkz, alls_snoc, hM, HZ.out]
   have HM := Lib.hid hM'
   clear hM hM'
   rcases h5 with hnil | ⟨b', off, rfl, hcl⟩
   ·have hn0 : n = 0 := by rw [HE.out, hnil]; rfl
    have HNil := Lib.hid hnil
    subst hn0
    clear hnil
    go_wp2_with fail
    refine wp_loop_rounds 1 ?_
    rw [rounds_succ]
    go_wp2_with fail
    go_round
    case rel => exact ⟨k + 1, by omega, by go_num, by rw [HM.out, HNil.out]; rfl⟩
    case measure => simp [intOf]; omega
   ·have HCL := Lib.hid hcl
    clear hcl
    go_wp2_with fail
    go_loop [3, 16] (fun v i => ∃ q : Nat, q ≤ n ∧ i = .int .i64 q ∧ v = .int .u64 (U (allF mix (l.take q) M))) (fun _ i => n - (intOf i).toNat)
    case atStart => exact ⟨0, Nat.zero_le _, rfl, rfl⟩
    case round =>
     obtain ⟨q, hq, rfl, rfl⟩ := hrel
     by_cases hqn : q < n
     ·have hql : q < l.length := by have := HE.out; omega
      have hcq := HCL.out q hql
      generalize hZ : l[q] = z at hcq
      generalize hM2 : allF mix (l.take q) M = M2
      have HM2 := Lib.hid (show allF mix (l.take (q + 1)) M = turnF mix M2 z by rw [take_snoc _ _ hql, allF_snoc, hM2, hZ])
      clear hZ hM2 h1
      go_wp2_with (go_at_call 68; (with_reducible refine (turn_any _ _ M2 z rfl rfl _).mono ?_); rintro e w' ⟨rfl, rfl⟩)
      go_round
      case rel => exact ⟨q + 1, by omega, by go_num, by rw [HM2.out]⟩
      case measure => simp [intOf]; omega
     ·have hqn' : n = q := by omega
      subst hqn'
      have hl : l.take n = l := List.take_of_length_le (by have := HE.out; omega)
      rw [hl, ← HM.out]
      clear hl h1
      go_wp2_with fail
      go_round
      case rel => exact ⟨k + 1, by omega, by go_num, rfl⟩
      case measure => simp [intOf]; omega
  ·have hkn : N = k := by omega
   subst hkn
   have e : zss.take N = zss := List.take_of_length_le (by have := HL.out; have := HN.out; omega)
   rw [e]
   clear e
   go_wp2_with fail
   go_ret
   exact ⟨rfl, rfl⟩

theorem Sl.later {w w' : World} {a : Option Addr} {n : Nat} {zs : List B64} (h : Sl w a n zs) (hb : Below w.heap.size w w') : Sl w' a n zs := by
 obtain ⟨h1, h2, h3⟩ := h
 refine ⟨h1, h2, ?_⟩
 rcases h3 with h3 | ⟨b, off, ha, hc⟩
 ·exact .inl h3
 ·refine .inr ⟨b, off, ha, fun i hi => ?_⟩
  rw [hb.cell (World.block_lt_of_cell? w _ (hc i hi))]
  exact hc i hi

theorem all_one (b n c : Nat) (a : Option Addr) (l : List B64) (w : World) (h : w.cell? ⟨b, 0, none⟩ = some (.slice a n c)) (hs : Sl w a n l) :
  Calls Tryz.prog 47 #[.slice (some ⟨b, 0, none⟩) 1 1] w fun e w' => e = .returned (.int .u64 (U (ofF mix l))) ∧ w = w' := by
 refine (all_any b 1 [(a, n, c)] [l] w rfl (by decide) (by simp) ?_ ?_).mono fun e w' h => h
 ·intro i hi
  match i, hi with
  | 0, _ => exact h
 ·intro i hi _
  match i, hi with
  | 0, _ => exact hs
theorem of_any (a : Option Addr) (n c : Nat) (l : List B64) (w : World) (hs : Sl w a n l) :
  Calls Tryz.prog 32 #[.slice a n c] w fun e w' => e = .returned (.int .u64 (U (ofF mix l))) ∧ Below w.heap.size w w' := by
 have hb := (Below.refl w.heap.size w).alloc (Nat.le_refl _) (.cells #[.slice a n c] 30)
 have hs2 := hs.later hb
 go_enter Tryz.func32, Tryz.ntmps32
 go_wp2_with fail
 refine (all_one _ n c a l _ (by simp [World.cell?_alloc_new]) hs2).mono ?_
 rintro e w' ⟨rfl, rfl⟩
 go_wp2_with fail
 go_ret
 exact ⟨rfl, hb⟩

end Go.Proofs.YtccankldeogdlaaGreat.Mark
namespace Go.Proofs.YtccankldeogdlaaGreat
end Go.Proofs.YtccankldeogdlaaGreat
set_option linter.unusedVariables false
set_option linter.unusedSimpArgs false
namespace Go.Proofs.YtccankldeogdlaaGreat.Tree
open Go.Proofs.YtccankldeogdlaaGreat.Bv Go.Proofs.YtccankldeogdlaaGreat.Mark

def leafF (s : List UInt8) : B64 := s.foldl (fun m b => mix (m ^^^ BitVec.ofNat 64 b.toNat)) (mix (BitVec.ofNat 64 s.length))
def rot32 (b : B64) : B64 := b <<< 32 ||| b >>> 32
def pairF (a b : B64) : B64 := mix (mix (a ^^^ rot32 b ^^^ 1#64) ^^^ b)
def splitN (n : Nat) : Nat := 2 ^ Nat.log2 (n - 1)
def rootF : Nat → List (List UInt8) → B64
 | 0, _ => 0#64
 | f + 1, l => match l with
  | [] => 0#64
  | [s] => leafF s
  | a :: b :: r => pairF (rootF f ((a :: b :: r).take (splitN (r.length + 2)))) (rootF f ((a :: b :: r).drop (splitN (r.length + 2))))
def rootL (l : List (List UInt8)) : B64 := rootF l.length l
end Go.Proofs.YtccankldeogdlaaGreat.Tree
namespace Go.Proofs.YtccankldeogdlaaGreat
end Go.Proofs.YtccankldeogdlaaGreat
set_option linter.unusedVariables false
set_option linter.unusedSimpArgs false
namespace Go.Proofs.YtccankldeogdlaaGreat.Tree
open Go.RowKit Go.Proofs.YtccankldeogdlaaGreat Go.Proofs.YtccankldeogdlaaGreat.Bv Go.Proofs.YtccankldeogdlaaGreat.Mark

theorem xor_num (a b : B64) : bits .xor .u64 (U a) (U b) = U (a ^^^ b) := by
 refine eq64 (bits64_nonneg _ _ _) (bits64_lt _ _ _) ?_
 rw [of_xor64, of_U, of_U]
theorem leaf_step (l : List UInt8) (n : Nat) (b : UInt8) (m : B64) : (l ++ [b]).foldl (fun m b => mix (m ^^^ BitVec.ofNat 64 b.toNat)) m = mix (l.foldl (fun m b => mix (m ^^^ BitVec.ofNat 64 b.toNat)) m ^^^ BitVec.ofNat 64 b.toNat) := by rw [List.foldl_append]; rfl
def upto (s : ByteArray) (k : Nat) : B64 := (s.data.toList.take k).foldl (fun m b => mix (m ^^^ BitVec.ofNat 64 b.toNat)) (mix (BitVec.ofNat 64 s.size))
theorem upto_succ (s : ByteArray) (k : Nat) (h : k < s.size) : upto s (k + 1) = mix (upto s k ^^^ BitVec.ofNat 64 s[k].toNat) := by
 unfold upto
 have hk : k < s.data.toList.length := by simpa using h
 rw [List.take_succ_eq_append_getElem hk, leaf_step _ k]
 rfl
theorem upto_all (s : ByteArray) : upto s s.size = leafF s.data.toList := by
 unfold upto leafF
 rw [List.take_of_length_le (by simp)]
 rfl
theorem U_nat (n : Nat) (h : n < 18446744073709551616) : ((n : Nat) : Int) = U (BitVec.ofNat 64 n) := by
 unfold U
 rw [BitVec.toNat_ofNat, Nat.mod_eq_of_lt h]
theorem leaf_any (s : ByteArray) (hs : s.size ≤ 9223372036854775807) (w : World) : Calls Tryz.prog 46 #[.string s] w fun e w' => e = .returned (.int .u64 (U (leafF s.data.toList))) ∧ ∃ q, w' = w.drewN q := by
 have h0 : upto s 0 = mix (BitVec.ofNat 64 s.size) := rfl
 have hU := U_nat s.size (by omega)
 have hm := mix_any _ (BitVec.ofNat 64 s.size) hU
 have hall := Lib.hid (upto_all s)
 rw [← h0] at hm
 have H0 := Lib.hid h0
 have hw : IntKind.u64.wrap (s.size : Int) = (s.size : Int) := by rw [IntKind.wrap_u64]; omega
 clear hU h0
 go_enter Tryz.func46, Tryz.ntmps46
 go_wp2_with fail
 refine (hm _).mono ?_
 rintro e w' ⟨rfl, rfl⟩
 clear hw
 go_wp2_with fail
 go_loop [3, 11] (fun m i => ∃ k : Nat, k ≤ s.size ∧ i = .int .i64 (k : Int) ∧ m = .int .u64 (U (upto s k))) (fun _ i => s.size - (intOf i).toNat)
 case atStart => exact ⟨0, Nat.zero_le _, rfl, rfl⟩
 case round =>
  obtain ⟨k, hk, rfl, rfl⟩ := hrel
  by_cases hlt : k < s.size
  ·have hsu := upto_succ s k hlt
   have hx := xor_num (upto s k) (BitVec.ofNat 64 s[k].toNat)
   rw [← U_nat s[k].toNat (by have := s[k].toNat_lt; omega)] at hx
   have hm := mix_any _ (upto s k ^^^ BitVec.ofNat 64 s[k].toNat) rfl
   rw [← hsu] at hm
   have HS := Lib.hid hsu
   clear hsu
   have hwb : IntKind.u64.wrap (s[k].toNat : Int) = (s[k].toNat : Int) := by have := s[k].toNat_lt; rw [IntKind.wrap_u64]; omega
   obtain ⟨m2, HM2⟩ : ∃ m2, Hid (upto s (k + 1) = m2) := ⟨_, Lib.hid rfl⟩
   rw [HM2.out] at hm
   clear HS
   generalize upto s k ^^^ BitVec.ofNat 64 s[k].toNat = x at *
   generalize upto s k = m1 at *
   go_wp2_with fail
   refine (hm _).mono ?_
   rintro e w' ⟨rfl, rfl⟩
   go_wp2_with fail
   go_round
   case rel => exact ⟨k + 1, by omega, by go_num, by rw [HM2.out]⟩
   case measure => simp [intOf]; omega
  ·obtain rfl : k = s.size := by omega
   rw [hall.out]
   go_wp2_with fail
   go_ret
   exact ⟨rfl, 0, rfl⟩
def cellsS (l : List ByteArray) : List Value := l.map Value.string
theorem cellsS_len (l : List ByteArray) : (cellsS l).length = l.length := by unfold cellsS; simp
def lists (l : List ByteArray) : List (List UInt8) := l.map fun s => s.data.toList
def Short (l : List ByteArray) : Prop := ∀ s ∈ l, s.size ≤ 9223372036854775807
theorem Rd.cut {w : World} {b o n : Nat} {l : List ByteArray} (h : Rd w 1 (some ⟨b, o, none⟩) n (cellsS l)) (k : Nat) (hk : k ≤ n) :
  Rd w 1 (some ⟨b, o, none⟩) k (cellsS (l.take k)) ∧ Rd w 1 (some ⟨b, o + k, none⟩) (n - k) (cellsS (l.drop k)) := by
 have hl : l.length = n := by have := h.1; rw [cellsS_len] at this; omega
 refine ⟨⟨by rw [cellsS_len, List.length_take]; omega, fun h0 => ?_⟩, ⟨by rw [cellsS_len, List.length_drop]; omega, fun h0 => ?_⟩⟩
 ·obtain ⟨b', o', e, hc⟩ := h.2 (by omega)
  refine ⟨b', o', e, fun j u hu => hc j u ?_⟩
  unfold cellsS at hu ⊢
  rw [List.getElem?_map, List.getElem?_take] at hu
  rw [List.getElem?_map]
  split at hu
  ·exact hu
  ·cases hu
 ·obtain ⟨b', o', e, hc⟩ := h.2 (by omega)
  injection e with e
  injection e with e1 e2
  subst e1; subst e2
  refine ⟨b, o + k, rfl, fun j u hu => ?_⟩
  rw [Nat.add_assoc]
  refine hc (k + j) u ?_
  unfold cellsS at hu ⊢
  rw [List.getElem?_map, List.getElem?_drop] at hu
  rw [List.getElem?_map]
  exact hu
end Go.Proofs.YtccankldeogdlaaGreat.Tree
namespace Go.Proofs.YtccankldeogdlaaGreat
end Go.Proofs.YtccankldeogdlaaGreat
namespace Go.Proofs.YtccankldeogdlaaGreat.Pack
open Go.Proofs.YtccankldeogdlaaGreat.Bv
def putF : Nat → Nat → List UInt8
  | 0, n => [UInt8.ofNat n]
  | k + 1, n => if n < 128 then [UInt8.ofNat n] else UInt8.ofNat (n % 128 + 128) :: putF k (n / 128)
def putL (n : Nat) : List UInt8 := putF 9 n
def val : List UInt8 → Nat
  | [] => 0
  | b :: l => b.toNat % 128 + 128 * val l

theorem putF_lt {k n : Nat} (h : n < 128) : putF k n = [UInt8.ofNat n] := by
  cases k with
  | zero => rfl
  | succ k => unfold putF; rw [if_pos h]
theorem putF_ge {k n : Nat} (h : ¬ n < 128) : putF (k + 1) n = UInt8.ofNat (n % 128 + 128) :: putF k (n / 128) := by
  rw [putF]; rw [if_neg h]
theorem putF_len (k n : Nat) : (putF k n).length ≤ k + 1 ∧ 1 ≤ (putF k n).length := by
  induction k generalizing n with
  | zero => simp [putF]
  | succ k ih =>
    by_cases h : n < 128
    · rw [putF_lt h]; simp
    · rw [putF_ge h]; have := ih (n / 128); simp; omega
theorem putL_len (n : Nat) : (putL n).length ≤ 10 ∧ 1 ≤ (putL n).length := putF_len 9 n

theorem pow_lt_div {n k : Nat} (h : n < 128 ^ (k + 2)) : n / 128 < 128 ^ (k + 1) := by
  rw [Nat.pow_succ] at h
  exact Nat.div_lt_of_lt_mul (by rw [Nat.mul_comm]; exact h)
theorem lt_pow {n : Nat} (h : n < 18446744073709551616) : n < 128 ^ (9 + 1) := Nat.lt_of_lt_of_le h (by decide)
def GetIs (l : List UInt8) (n : Nat) (rest : List UInt8) (e : Int) : Prop :=
  (∃ k, k < 10 ∧ k < l.length ∧ (∀ i (h : i < l.length), i < k → 128 ≤ l[i].toNat) ∧ (∀ h : k < l.length, l[k].toNat < 128) ∧
    ((putL (val (l.take (k + 1)) % 18446744073709551616) = l.take (k + 1) ∧ n = val (l.take (k + 1)) % 18446744073709551616 ∧ rest = l.drop (k + 1) ∧ e = 0) ∨
     (putL (val (l.take (k + 1)) % 18446744073709551616) ≠ l.take (k + 1) ∧ n = 0 ∧ rest = [] ∧ e = 4))) ∨
  (l.length < 10 ∧ (∀ i (h : i < l.length), 128 ≤ l[i].toNat) ∧ n = 0 ∧ rest = [] ∧ e = 3) ∨
  (10 ≤ l.length ∧ (∀ i (h : i < l.length), i < 10 → 128 ≤ l[i].toNat) ∧ n = 0 ∧ rest = [] ∧ e = 4)
def foldN (x : Int) : Nat := if 0 ≤ x then (2 * x).toNat else (-2 * x - 1).toNat
end Go.Proofs.YtccankldeogdlaaGreat.Pack
namespace Go.Proofs.YtccankldeogdlaaGreat
end Go.Proofs.YtccankldeogdlaaGreat
set_option linter.unusedVariables false
set_option linter.unusedSimpArgs false
namespace Go.Proofs.YtccankldeogdlaaGreat.Pack
open Go.RowKit Go.Proofs.YtccankldeogdlaaGreat.Bv

theorem infoU8 : (Tryz.prog.info? 5).map (fun i => (i.zero, i.size, i.bytes)) = some (some (.int .u8 0), 1, 1) := by kernel_rfl
def cells (l : List UInt8) : List Value := l.map fun b => Value.int .u8 (b.toNat : Int)
theorem cells_snoc (l : List UInt8) (b : UInt8) : cells (l ++ [b]) = cells l ++ [Value.int .u8 (b.toNat : Int)] := by unfold cells; simp
theorem cells_get (l : List UInt8) (i : Nat) (h : i < l.length) : (cells l)[i]? = some (.int .u8 (l[i].toNat : Int)) := by unfold cells; simp [h]
def strOf (l : List UInt8) : ByteArray := ⟨l.toArray⟩
theorem strOf_size (l : List UInt8) : (strOf l).size = l.length := by
 show l.toArray.size = _
 simp
theorem strOf_list (l : List UInt8) : (strOf l).data.toList = l := rfl

theorem or128 (n : Nat) : bits BinOp.or IntKind.u8 ((n : Int) % 256) 128 = (((UInt8.ofNat (n % 128 + 128)).toNat : Nat) : Int) := by
 have e : ((n : Int) % 256) = ((n % 256 : Nat) : Int) := by omega
 have h1 : n % 256 < 256 := Nat.mod_lt _ (by decide)
 have key : ∀ x : Fin 256, (x.val ||| 128) = x.val % 128 + 128 := by decide +kernel
 have h2 := key ⟨n % 256, h1⟩
 simp only at h2
 rw [e, show (128 : Int) = ((128 : Nat) : Int) from rfl, (bits_nat .u8 8 (by decide) wraps_u8 _ _ (by omega) (by decide)).2, h2]
 simp only [UInt8.toNat_ofNat']
 omega

theorem conv_bytes (w : World) (base g n cap : Nat) (l : List UInt8) (hn : n = l.length) (h : w.ownsRow base 5 1 (.slice (some ⟨g, 0, none⟩) n cap) n (cells l)) :
  (convert 130 9 (.slice (some ⟨g, 0, none⟩) n cap)).run Tryz.prog w = .ok (.string (strOf l)) w := by
 subst hn
 refine run_convert_bytes_back (P := Tryz.prog) w 130 9 5 ⟨g, 0, none⟩ cap l Tryz.underlying130 Tryz.underlying5 Tryz.underlying9 ?_
 intro j hj
 rw [add0, h.cellAt j (by omega), cells_get l j hj]

theorem put_any (n : Nat) (hn : n < 18446744073709551616) (x : Int) (hx : x = n) (w : World) :
  Calls Tryz.prog 64 #[.int .u64 x] w fun e w' => e = .returned (.string (strOf (putL n))) ∧ Below w.heap.size w w' := by
 subst hx
 obtain ⟨i0, hi, hz0, hz1, hz2⟩ := info_parts infoU8
 have HN := Lib.hid (lt_pow hn)
 clear hn
 go_enter Tryz.func64, Tryz.ntmps64
 go_wp2_with fail
 go_loopw [0, 3] (fun x v wr => ∃ (k m : Nat) (acc : List UInt8), k ≤ 9 ∧ x = .int .u64 (m : Int) ∧ Hid (m < 128 ^ (k + 1)) ∧ Hid (acc ++ putF k m = putL n) ∧ wr.ownsRow w.heap.size 5 1 v acc.length (cells acc) ∧ Below w.heap.size w wr) (fun x _ _ => (intOf x).toNat)
 case atStart => exact ⟨9, n, [], Nat.le_refl _, rfl, HN, rfl, World.ownsRow_nil _ _ _ _, Below.refl _ _⟩
 case round =>
  obtain ⟨k, m, acc, hk, rfl, HM, HA, hown, hb⟩ := hrel
  by_cases hlt : 128 ≤ m
  ·obtain ⟨k', rfl⟩ : ∃ k', k = k' + 1 := by
    cases k with
    | zero => have := HM.out; simp at this; omega
    | succ k' => exact ⟨k', rfl⟩
   obtain ⟨b, HB⟩ : ∃ b, Hid (b = UInt8.ofNat (m % 128 + 128)) := ⟨_, Lib.hid rfl⟩
   have hor := or128 m
   rw [← HB.out] at hor
   have HA2 : Hid ((acc ++ [b]) ++ putF k' (m / 128) = putL n) := by
    show _ = _
    rw [← HA.out, putF_ge (by omega), ← HB.out, List.append_assoc]; rfl
   have HM2 : Hid (m / 128 < 128 ^ (k' + 1)) := pow_lt_div HM.out
   have hal : acc.length ≤ 9 := by
    have h1 := (putL_len n).1
    have h2 := congrArg List.length HA2.out
    have h3 := (putF_len k' (m / 128)).2
    simp at h2
    omega
   have hbA := hb.alloc hb.size (.cells #[.int .u8 (b.toNat : Int)] 5)
   go_wp2_with (at_builtin; refine wpList_append_own _ rfl _ _ 130 rfl w.heap.size 5 i0 (.int .u8 0) 1 1 Tryz.underlying130 hi hz0 hz1 hz2 rfl (by decide) _ acc.length (cells acc) rfl (hown.alloc _) ⟨wr.heap.size, 0, none⟩ 1 1 [.int .u8 (b.toNat : Int)] rfl rfl ?d1 ?d2 ?d3 ?d4 ?d5 ?_)
   case d1 =>
    intro j u hj
    match j, hj with
    | 0, hj => simp at hj; subst hj; simp [Addr.add]
   case d2 => intro u hu; simp at hu; subst hu; rfl
   case d3 => unfold maxLen; omega
   case d4 => omega
   case d5 => have := hb.size; simp; omega
   intro v' w1 hown' hgrow _
   have hb1 := hbA.grown hgrow (by have := hb.size; simp; omega) (fun q hq => (hown.lt q hq).1)
   rw [← cells_snoc, show acc.length + 1 = (acc ++ [b]).length by simp] at hown'
   clear hgrow hown hbA hb
   go_wp2_with fail
   go_roundw
   case rel => exact ⟨k', m / 128, acc ++ [b], by omega, by go_num, HM2, HA2, hown', hb1⟩
   case measure => simp [intOf]; omega
  ·have ha : acc ++ [UInt8.ofNat m] = putL n := by rw [← HA.out, putF_lt (by omega)]
   have hm8 : (UInt8.ofNat m).toNat = m := by rw [UInt8.toNat_ofNat']; omega
   have hal : acc.length ≤ 9 := by
    have h1 := (putL_len n).1
    have h2 := congrArg List.length ha
    simp at h2
    omega
   have H8 := Lib.hid hm8
   have HA2 := Lib.hid ha
   have hbA := hb.alloc hb.size (.cells #[.int .u8 (m : Int)] 5)
   clear ha hm8
   go_wp2_with (at_builtin; refine wpList_append_own _ rfl _ _ 130 rfl w.heap.size 5 i0 (.int .u8 0) 1 1 Tryz.underlying130 hi hz0 hz1 hz2 rfl (by decide) _ acc.length (cells acc) rfl (hown.alloc _) ⟨wr.heap.size, 0, none⟩ 1 1 [.int .u8 (m : Int)] rfl rfl ?c1 ?c2 ?c3 ?c4 ?c5 ?_)
   case c1 =>
    intro j u hj
    match j, hj with
    | 0, hj => simp at hj; subst hj; simp [Addr.add]
   case c2 => intro u hu; simp at hu; subst hu; rfl
   case c3 => unfold maxLen; omega
   case c4 => omega
   case c5 => have := hb.size; simp; omega
   intro v' w1 hown' hgrow _
   have hb1 := hbA.grown hgrow (by have := hb.size; simp; omega) (fun q hq => (hown.lt q hq).1)
   have hcc : cells acc ++ [Value.int .u8 (m : Int)] = cells (putL n) := by rw [← HA2.out, cells_snoc, H8.out]
   have hlen : acc.length + 1 = (putL n).length := by rw [← HA2.out]; simp
   rw [hcc, hlen] at hown'
   have hex : ∃ g cap, v' = .slice (some ⟨g, 0, none⟩) (putL n).length cap := by
    rcases hown'.2 with ⟨_, h⟩ | ⟨g, cap, cur, h, _⟩
    ·omega
    ·exact ⟨g, cap, h⟩
   obtain ⟨g, cap, hv⟩ := hex
   rw [hv] at hown' ⊢
   have hcv := conv_bytes w1 _ g _ cap (putL n) rfl hown'
   clear hv hgrow hown hbA hb hcc hlen hown'
   go_wp2_with fail
   go_ret
   exact ⟨rfl, hb1⟩

theorem ret_u64 {a b : Int} (h : a = b) : Ending.returned (.int .u64 a) = .returned (.int .u64 b) := by rw [h]
theorem xor_ones (n : Nat) (h : n < 18446744073709551616) : n ^^^ 18446744073709551615 = 18446744073709551615 - n := by
 have e : (BitVec.ofNat 64 n ^^^ BitVec.allOnes 64).toNat = (~~~(BitVec.ofNat 64 n)).toNat := by rw [BitVec.xor_allOnes]
 rw [BitVec.toNat_xor, BitVec.toNat_not, BitVec.toNat_ofNat, BitVec.toNat_allOnes, Nat.mod_eq_of_lt h] at e
 exact e
theorem fold_any (x : Int) (h0 : -9223372036854775808 ≤ x) (h1 : x ≤ 9223372036854775807) (w : World) :
  Calls Tryz.prog 65 #[.int .i64 x] w fun e w' => e = .returned (.int .u64 (foldN x)) ∧ w = w' := by
 by_cases hx : 0 ≤ x
 ·go_enter Tryz.func65, Tryz.ntmps65
  go_wp2
  go_ret
  refine ⟨ret_u64 ?_, rfl⟩
  have e : x / 9223372036854775808 = ((0 : Nat) : Int) := by omega
  obtain ⟨m, rfl⟩ := Int.eq_ofNat_of_zero_le hx
  rw [e, show ((m : Int) * 2) = ((m * 2 : Nat) : Int) by omega, u64_xor_nat _ _ (by omega) (by omega), Nat.xor_zero]
  unfold foldN
  rw [if_pos hx]
  omega
 ·go_enter Tryz.func65, Tryz.ntmps65
  go_wp2
  go_ret
  refine ⟨ret_u64 ?_, rfl⟩
  have hx' : ¬ 0 ≤ x := by omega
  have e : IntKind.u64.wrap (x / 9223372036854775808) = ((18446744073709551615 : Nat) : Int) := by rw [IntKind.wrap_u64]; omega
  have e2 : IntKind.u64.wrap (IntKind.u64.wrap x * 2) = (((2 * x + 18446744073709551616).toNat : Nat) : Int) := by rw [IntKind.wrap_u64, IntKind.wrap_u64]; omega
  rw [e, e2, u64_xor_nat _ _ (by omega) (by omega)]
  unfold foldN
  rw [if_neg hx']
  have e3 : (2 * x + 18446744073709551616).toNat ^^^ 18446744073709551615 = 18446744073709551615 - (2 * x + 18446744073709551616).toNat := by
   exact xor_ones _ (by omega)
  rw [e3]
  omega

def GetPost (l : List UInt8) (w : World) (e : Ending) (w' : World) : Prop :=
 ∃ (n : Nat) (rest : List UInt8) (k : Int), GetIs l n rest k ∧ e = .returned (.tuple #[.int .u64 (n : Int), .string (strOf rest), .int .i64 k]) ∧ Below w.heap.size w w'

end Go.Proofs.YtccankldeogdlaaGreat.Pack
namespace Go.Proofs.YtccankldeogdlaaGreat
section
open Go.RowKit
def cellsI (l : List Int) : List Value := l.map (Value.int .i64)
theorem cellsI_get (l : List Int) (i : Nat) (h : i < l.length) : (cellsI l)[i]? = some (.int .i64 l[i]) := by unfold cellsI; simp [h]
def GI (_ : Nat) (u : Value) : Prop := ∃ n : Int, u = .int .i64 n
def I64 (l : List Int) : Prop := ∀ x ∈ l, -9223372036854775808 ≤ x ∧ x ≤ 9223372036854775807
end
end Go.Proofs.YtccankldeogdlaaGreat
set_option linter.unusedVariables false
set_option linter.unusedSimpArgs false
namespace Go.Proofs.YtccankldeogdlaaGreat.Pack
open Go.Proofs.YtccankldeogdlaaGreat Go.Proofs.YtccankldeogdlaaGreat.Bv

def unfoldN (n : Nat) : Int := if n % 2 = 0 then ((n / 2 : Nat) : Int) else -((n / 2 : Nat) : Int) - 1
theorem foldN_lt (x : Int) (h0 : -9223372036854775808 ≤ x) (h1 : x ≤ 9223372036854775807) : foldN x < 18446744073709551616 := by
 unfold foldN
 split <;> omega
def items (l : List Int) : List UInt8 := l.flatMap fun x => putL (foldN x)
def putAllL (l : List Int) : List UInt8 := putL l.length ++ items l
theorem items_cons (x : Int) (l : List Int) : items (x :: l) = putL (foldN x) ++ items l := rfl
theorem items_app (a b : List Int) : items (a ++ b) = items a ++ items b := by unfold items; rw [List.flatMap_append]
theorem items_snoc (a : List Int) (x : Int) : items (a ++ [x]) = items a ++ putL (foldN x) := by rw [items_app, items_cons]; simp [items]
theorem items_len (l : List Int) : (items l).length ≤ 10 * l.length := by
 induction l with
 | nil => simp [items]
 | cons x l ih => rw [items_cons]; have := (putL_len (foldN x)).1; simp; omega
def GotAll (s : List UInt8) (out : List Int) (e : Int) : Prop :=
 I64 out ∧ (e = 0 → s = putAllL out ∧ out.length ≤ 1000) ∧ (e ≠ 0 → out = [] ∧ ∀ l, I64 l → l.length ≤ 1000 → s ≠ putAllL l)
end Go.Proofs.YtccankldeogdlaaGreat.Pack
namespace Go.Proofs.YtccankldeogdlaaGreat
end Go.Proofs.YtccankldeogdlaaGreat
set_option linter.unusedVariables false
set_option linter.unusedSimpArgs false
namespace Go.Proofs.YtccankldeogdlaaGreat.Pack
open Go.RowKit Go.Proofs.YtccankldeogdlaaGreat

theorem sizeB : (Tryz.prog.info? 132).map (·.size) = some 2 := by kernel_rfl
theorem liesB : liesAt Tryz.prog Tryz.prog.depth 132 (2 / Tryz.prog.cellsOf 132) 0 132 1 = true := by kernel_rfl
theorem infoByte : (Tryz.prog.info? 5).map (fun i => (i.zero, i.size, i.bytes)) = some (some (.int .u8 0), 1, 1) := by kernel_rfl
theorem check_used (b : Nat) (w : World) (h0 : w.cell? ⟨b, 0, none⟩ = some (.pointer (some ⟨b, 0, none⟩))) :
  Calls Tryz.prog 85 #[.pointer (some ⟨b, 0, none⟩)] w fun e w' => e = .returned (.tuple #[]) ∧ w' = w := by
 obtain ⟨j, hj, _⟩ := Option.map_eq_some_iff.1 sizeB
 go_enter Tryz.func85, Tryz.ntmps85
 go_wp2
 rw [Lib.run_neq_ptr_same w _ Tryz.underlying129 hj]
 go_wp2
 go_end0
 exact ⟨rfl, rfl⟩
theorem check_fresh (b : Nat) (w : World) (h0 : w.cell? ⟨b, 0, none⟩ = some (.pointer none)) (hsh : w.shape? b = some (132, 2)) (hfz : w.frozen? ⟨b, 0, none⟩ = false) :
  Calls Tryz.prog 85 #[.pointer (some ⟨b, 0, none⟩)] w fun e w' => e = .returned (.tuple #[]) ∧ w' = w.setCell ⟨b, 0, none⟩ (.pointer (some ⟨b, 0, none⟩)) := by
 obtain ⟨j, hj, hjs⟩ := Option.map_eq_some_iff.1 sizeB
 go_enter Tryz.func85, Tryz.ntmps85
 go_wp2
 rw [Lib.run_to_unsafe w ⟨b, 0, none⟩ Tryz.underlying129 Tryz.underlying180 hj (by rw [hjs]; decide) hsh (Nat.zero_lt_succ 1)]
 simp only [Result.andThen]
 rw [Oper.upon_value]
 go_wp2
 rw [run_callFunc_extern Tryz.func95 (by kernel_rfl) (by kernel_rfl) (by kernel_rfl) (e := Extern.AbiNoEscape.same) (by kernel_rfl)]
 rw [Lib.run_noEscape]
 simp only [Result.andThen]
 rw [Oper.upon_value]
 go_wp2
 rw [Lib.run_from_unsafe w ⟨b, 0, none⟩ Tryz.underlying180 Tryz.underlying129 hj hsh liesB]
 simp only [Result.andThen]
 rw [Oper.upon_value]
 go_wp2
 go_end0
 exact ⟨rfl, rfl⟩
theorem check_any (B b : Nat) (bs : List Value) (w : World) (h : Lib.IsBuilder 132 5 B b bs w) :
  Calls Tryz.prog 85 #[.pointer (some ⟨b, 0, none⟩)] w fun e w' => e = .returned (.tuple #[]) ∧ (Lib.BuilderAt 132 5 B b (.pointer (some ⟨b, 0, none⟩)) bs w' ∧ Below B w w') := by
 rcases h with h | h
 ·refine (check_fresh b w h.cell0 h.shape h.frozen0).mono ?_
  rintro e w' ⟨rfl, rfl⟩
  exact ⟨rfl, h.used _, (Below.refl B w).setCell (p := ⟨b, 0, none⟩) h.1 _⟩
 ·refine (check_used b w h.cell0).mono ?_
  rintro e w' ⟨rfl, rfl⟩
  exact ⟨rfl, h, Below.refl B _⟩
theorem write_any (B b : Nat) (bs : List Value) (s : ByteArray) (w : World) (h : Lib.IsBuilder 132 5 B b bs w) (hlen : bs.length + s.size ≤ 140737488355328) (hBw : B ≤ w.heap.size) :
  Calls Tryz.prog 63 #[.pointer (some ⟨b, 0, none⟩), .string s] w fun e w' => e = .returned (.tuple #[.int .i64 s.size, .nilIface]) ∧ (Lib.BuilderAt 132 5 B b (.pointer (some ⟨b, 0, none⟩)) (bs ++ Lib.strCells s) w' ∧ Below B w w') := by
 obtain ⟨i0, hi, hz0, hz1, hz2⟩ := info_parts infoByte
 go_enter Tryz.func63, Tryz.ntmps63
 go_wp2_with fail
 refine (check_any B b bs _ h).mono ?_
 rintro e w1 ⟨rfl, h1, hb1⟩
 obtain ⟨hB, v, hbk, hown, hne⟩ := h1
 have c0 : w1.cell? ⟨b, 0, none⟩ = some (.pointer (some ⟨b, 0, none⟩)) := by rw [Lib.cell_of_heap hbk]; rfl
 have c1 : w1.cell? ⟨b, 1, none⟩ = some v := by rw [Lib.cell_of_heap hbk]; rfl
 go_wp2_with (at_builtin; refine Lib.wpList_append_own_string _ rfl _ _ 130 9 rfl B 5 i0 Tryz.underlying130 Tryz.underlying9 hi hz0 hz1 hz2 _ _ _ rfl hown s rfl ?c3 ?c4 ?c5 ?_)
 case c3 => unfold maxLen; omega
 case c4 => omega
 case c5 => have := hb1.size; omega
 intro v' w2 hown' hgrow _
 have hlt : b < w1.heap.size := by
  rcases Nat.lt_or_ge b w1.heap.size with h' | h'
  ·exact h'
  ·simp [Array.getElem?_eq_none h'] at hbk
 have hb2 : w2.heap[b]? = some (.cells #[.pointer (some ⟨b, 0, none⟩), v] 132 (0, 0)) := by
  rw [hgrow.block b hlt (fun e => hne e.symm)]
  exact hbk
 have d0 : w2.cell? ⟨b, 0, none⟩ = some (.pointer (some ⟨b, 0, none⟩)) := by rw [Lib.cell_of_heap hb2]; rfl
 have d1 : w2.cell? ⟨b, 1, none⟩ = some v := by rw [Lib.cell_of_heap hb2]; rfl
 have f1 : w2.frozen? ⟨b, 1, none⟩ = false := Lib.frozen_of_heap hb2 1
 obtain ⟨ao, n', cap, rfl⟩ : ∃ ao n' cap, v' = .slice ao n' cap := by
  rcases hown'.2 with ⟨hv, _⟩ | ⟨g, cap, cur, hv, _⟩
  ·exact ⟨_, _, _, hv⟩
  ·exact ⟨_, _, _, hv⟩
 go_wp2
 go_ret2
 refine ⟨rfl, ?_, ?_⟩
 ·exact Lib.BuilderAt.put (T := 132) (e := 5) hB hb2 (bs' := bs ++ Lib.strCells s) (by simpa [Lib.strCells_length] using hown') (by decide)
 ·exact (hb1.grown hgrow (by have := hb1.size; omega) (fun k hk => (hown.lt k hk).1)).setCell (p := ⟨b, 1, none⟩) hB _
end Go.Proofs.YtccankldeogdlaaGreat.Pack
namespace Go.Proofs.YtccankldeogdlaaGreat
end Go.Proofs.YtccankldeogdlaaGreat
set_option linter.unusedVariables false
set_option linter.unusedSimpArgs false
namespace Go.Proofs.YtccankldeogdlaaGreat.Pack
open Go.RowKit Go.Proofs.YtccankldeogdlaaGreat Go.Proofs.YtccankldeogdlaaGreat.Bv

theorem built_later {T e : TypeId} {B b : Nat} {p : Value} {bs : List Value} {w w' : World} (h : Lib.BuilderAt T e B b p bs w) (hb : Below w.heap.size w w') : Lib.BuilderAt T e B b p bs w' := by
 have hlt := h.lt
 obtain ⟨hB, v, hbk, hown, hne⟩ := h
 exact ⟨hB, v, by rw [hb.block b hlt]; exact hbk, ownsRow_later hown hb, hne⟩
theorem putAll_long (A : Option Addr) (n c : Nat) (hn : 1000 < n) (w : World) :
  Calls Tryz.prog 45 #[.slice A n c] w fun e w' => e = .returned (.tuple #[.string ⟨#[]⟩, .int .i64 2]) ∧ w = w' := by
 have hn2 : (1000 : Int) < (n : Int) := by omega
 go_enter Tryz.func45, Tryz.ntmps45
 go_wp2_with fail
 go_ret2
 exact ⟨rfl, rfl⟩
theorem putAll_any (A : Option Addr) (n c : Nat) (l : List Int) (hl : l.length = n) (hn : n ≤ 1000) (h64 : I64 l) (w : World) (hr : Rd w 1 A n (cellsI l)) :
  Calls Tryz.prog 45 #[.slice A n c] w fun e w' => e = .returned (.tuple #[.string (strOf (putAllL l)), .int .i64 0]) ∧ Below w.heap.size w w' := by
 have hB : Lib.IsBuilder 132 5 w.heap.size w.heap.size [] (w.alloc (.cells #[.pointer none, .slice none 0 0] 132)) :=
  .inl ⟨Nat.le_refl _, .slice none 0 0, heap_alloc_new w _, World.ownsRow_nil _ _ _ _, by simp [Value.ownBlock]⟩
 have hb0 : Below w.heap.size w (w.alloc (.cells #[.pointer none, .slice none 0 0] 132)) := (Below.refl _ _).alloc (Nat.le_refl _) _
 have hw : IntKind.u64.wrap (n : Int) = (n : Int) := by rw [IntKind.wrap_u64]; omega
 have HL := Lib.hid hl
 clear hl
 go_enter Tryz.func45, Tryz.ntmps45
 go_wp2_with fail
 refine (put_any n (by omega) _ rfl _).mono ?_
 rintro e w1 ⟨rfl, hb1⟩
 have hB1 : Lib.IsBuilder 132 5 w.heap.size w.heap.size [] w1 := by
  rcases hB with h | h
  ·exact .inl (built_later h hb1)
  ·exact .inr (built_later h hb1)
 have hb2 := hb0.trans (hb1.mono hb0.size)
 clear hB hb1
 have hpl := putL_len n
 go_wp2_with fail
 refine (write_any w.heap.size w.heap.size [] (strOf (putL n)) w1 hB1 (by rw [strOf_size]; simp; omega) hb2.size).mono ?_
 rintro e w2 ⟨rfl, hB2, hb3⟩
 have hb4 := hb2.trans hb3
 rw [List.nil_append, Lib.strCells_eq, strOf_list] at hB2
 clear hB1 hb2 hb3
 go_wp2_with fail
 go_loopw [17] (fun i wr => ∃ k : Nat, k ≤ n ∧ i = .int .i64 (k : Int) ∧ Lib.BuilderAt 132 5 w.heap.size w.heap.size (.pointer (some ⟨w.heap.size, 0, none⟩)) (Lib.byteCells (putL n ++ items (l.take k))) wr ∧ Below w.heap.size w wr) (fun i _ => n - (intOf i).toNat)
 case atStart => exact ⟨0, Nat.zero_le _, rfl, by simpa [items] using hB2, hb4⟩
 case round =>
  clear hB2 hb4
  obtain ⟨k, hk, rfl, hB, hb⟩ := hrel
  by_cases hlt : k < n
  ·obtain ⟨b, o, rfl, hc⟩ := hr.2 (by omega)
   have hkl : k < l.length := by rw [HL.out]; exact hlt
   have hx := cell_below hb (hc k _ (cellsI_get l k hkl)) (World.block_lt_of_cell? w _ (hc k _ (cellsI_get l k hkl)))
   have hx64 := h64 l[k] (List.getElem_mem hkl)
   have htk : items (l.take (k + 1)) = items (l.take k) ++ putL (foldN l[k]) := by rw [List.take_succ_eq_append_getElem hkl, items_snoc]
   have HT := Lib.hid htk
   generalize l[k] = x at *
   have hfl := foldN_lt x hx64.1 hx64.2
   have hfold := fold_any x hx64.1 hx64.2
   have hpl2 := putL_len (foldN x)
   have hil := items_len (l.take k)
   have htl : (l.take k).length ≤ k := List.length_take_le _ _
   clear htk
   generalize foldN x = y at *
   go_wp2_with fail
   refine (hfold _).mono ?_
   rintro e w' ⟨rfl, rfl⟩
   go_wp2_with fail
   refine (put_any y hfl _ rfl _).mono ?_
   rintro e w5 ⟨rfl, hb5⟩
   have hB5 := built_later hB hb5
   have hb6 := hb.trans (hb5.mono hb.size)
   go_wp2_with fail
   refine (write_any w.heap.size w.heap.size _ (strOf (putL y)) w5 (.inr hB5) (by rw [strOf_size, Lib.byteCells_length]; simp; omega) hb6.size).mono ?_
   rintro e w6 ⟨rfl, hB6, hb7⟩
   have hb8 := hb6.trans hb7
   rw [Lib.strCells_eq, strOf_list, ← Lib.byteCells_append, List.append_assoc, ← HT.out] at hB6
   clear hB hB5 hb hb5 hb6 hb7
   go_wp2_with fail
   go_roundw
   case rel => exact ⟨k + 1, by omega, by go_num, hB6, hb8⟩
   case measure => simp [intOf]; omega
  ·obtain rfl : k = n := by omega
   rw [List.take_of_length_le (by rw [HL.out]; exact Nat.le_refl _)] at hB
   go_wp2_with fail
   refine (Tryz.Builder_String_any w.heap.size w.heap.size (putL k ++ items l) wr (.inr hB) hb.size).mono ?_
   rintro e w9 ⟨rfl, hb9⟩
   go_wp2_with fail
   go_ret2
   refine ⟨?_, hb.trans hb9⟩
   unfold putAllL strOf
   rw [HL.out]
   rfl
def GetAllPost (s : ByteArray) (w : World) (e : Ending) (w' : World) : Prop :=
 ∃ (out : List Int) (k : Int) (A : Option Addr) (n c : Nat), GotAll s.data.toList out k ∧ e = .returned (.tuple #[.slice A n c, .int .i64 k]) ∧ Own w' w.heap.size 3 1 GI (.slice A n c) out.length (cellsI out) ∧ Below w.heap.size w w'
end Go.Proofs.YtccankldeogdlaaGreat.Pack
namespace Go.Proofs.YtccankldeogdlaaGreat
section
open Go.RowKit Go.Proofs.YtccankldeogdlaaGreat.Bv
def repU : Rep (BitVec 64) := Rep.flat 1 (λ b => [.int .u64 (U b)]) (λ _ => True) (λ _ u => ∃ n : Int, u = .int .u64 n) (λ _ => rfl) (by intro a u hu; simp at hu; subst hu; rfl) (by
 intro a j u hu
 cases j with
 | zero => simp at hu; exact ⟨_, hu.symm⟩
 | succ j => simp at hu)
theorem info_u64 : (Tryz.prog.info? 39).map (λ i => (i.zero, i.size, i.bytes)) = some (some (.int .u64 0), 1, 8) := by kernel_rfl
theorem raw0U : ∀ (j : Nat) u, (Value.int .u64 0).cells[j]? = some u → repU.raw j u := by
 intro j u hu
 have hu : (#[(.int .u64 0 : Value)] : Array Value)[j]? = some u := hu
 match j, hu with
 | 0, hu => exact ⟨0, (Option.some.inj hu).symm⟩
 | j + 1, hu => simp at hu
theorem sl_of {by_ : Nat} {w : World} {A : Option Addr} {c : Nat} {l : List (BitVec 64)} (h : repU.SHas by_ w A c l) : Mark.Sl w A l.length l := by
 refine ⟨rfl, h.len_le, ?_⟩
 cases hl : l with
 | nil => exact .inl rfl
 | cons x r =>
  rw [← hl]
  obtain ⟨b, o, e, hc⟩ := h.at_ (by rw [hl]; simp)
  refine .inr ⟨b, o, e, λ i hi => ?_⟩
  obtain ⟨es, ⟨rfl, _⟩, hj⟩ := hc i _ (List.getElem?_eq_getElem hi)
  have := hj 0 _ rfl
  simpa [repU, Rep.flat] using this
theorem flat_intsU {w : World} : ∀ {ess : List (List Value)} {l : List Int}, All2 (λ es a => repI.has w es a) ess l → ess.flatten = l.map (Value.int .i64)
 | [], [], _ => rfl
 | es :: ess, a :: l, h => by
  obtain ⟨h1, h2⟩ := h
  rw [List.flatten_cons, hcI h1, flat_intsU h2]; rfl
 | [], _ :: _, h => h.elim
 | _ :: _, [], h => h.elim
def packN (l : List Int) : List UInt8 := if l.length ≤ 1000 then Pack.putAllL l else []
def leafN (l : List Int) : BitVec 64 := Tree.leafF (packN l)
theorem packN_len (l : List Int) : (packN l).length ≤ 20000 := by
 unfold packN
 split
 ·rename_i h
  unfold Pack.putAllL; rw [List.length_append]
  have := (Pack.putL_len l.length).1
  have := Pack.items_len l
  omega
 ·simp
theorem pack_leaf (l : List Int) (A : Option Addr) (c : Nat) (w : World) (h : repI.SHas 8 w A c l) : Calls Tryz.prog 45 #[.slice A l.length c] w λ e w' => (∃ k, e = .returned (.tuple #[.string (Pack.strOf (packN l)), .int .i64 k])) ∧ Ext w w' := by
 unfold packN
 by_cases hn : l.length ≤ 1000
 ·rw [if_pos hn]
  have hr : Rd w 1 A l.length (cellsI l) := by
   obtain ⟨s1, s2, s3, s4, ess, s5, s6⟩ := h
   rw [flat_intsU s5] at s6; exact s6
  exact (Pack.putAll_any A l.length c l rfl hn (λ x hx => okI_iff.1 (repI_ok h x hx)) w hr).mono λ e w' h => ⟨⟨0, h.1⟩, h.2⟩
 ·rw [if_neg hn]
  exact (Pack.putAll_long A l.length c (by omega) w).mono λ e w' h => ⟨⟨2, h.1⟩, by rw [← h.2]; exact Ext.rf w⟩
theorem leaf_text (s : List UInt8) (hs : s.length ≤ 20000) (w : World) : Calls Tryz.prog 46 #[.string (Pack.strOf s)] w λ e w' => e = .returned (.int .u64 (U (Tree.leafF s))) ∧ Ext w w' := by
 refine (Tree.leaf_any (Pack.strOf s) (by rw [Pack.strOf_size]; omega) w).mono ?_
 rintro e w' ⟨rfl, q, rfl⟩
 exact ⟨by rw [Pack.strOf_list], below_drewN (Below.refl _ w) q⟩
theorem of_leaf (l : List (BitVec 64)) (A : Option Addr) (c : Nat) (w : World) (h : repU.SHas 8 w A c l) : Calls Tryz.prog 32 #[.slice A l.length c] w λ e w' => e = .returned (.int .u64 (U (Mark.ofF Mark.mix l))) ∧ Ext w w' := Mark.of_any A l.length c l w (sl_of h)
def mkF (W : Wd) : BitVec 64 := leafN ([1, W.field.wide, W.field.high, W.next, W.now] ++ W.field.places)
def mkB (W : Wd) (i : Nat) : BitVec 64 := leafN [2, (i : Int), (W.bases.getD i default).x, (W.bases.getD i default).y, W.stocks.getD i 0]
def mkM (W : Wd) : Nat → List (BitVec 64)
 | 0 => []
 | k + 1 => mkM W k ++ (if W.mines.getD k 0 = 0 then [] else [leafN [3, (k : Int), W.mines.getD k 0]])
def mkT (t : Trp) : BitVec 64 := leafN [4, t.id, t.owner, t.kind, t.spot.x, t.spot.y, t.life, t.load]
def marksB (W : Wd) (k : Nat) : List (BitVec 64) := [mkF W] ++ (List.range k).map (mkB W)
def marks (W : Wd) : List (BitVec 64) := marksB W W.bases.length ++ mkM W W.mines.length ++ W.troops.map mkT
def markN (W : Wd) : BitVec 64 := if W.chk = 0 then Mark.ofF Mark.mix (marks W) else 0#64
theorem marksB_succ (W : Wd) (k : Nat) : marksB W (k + 1) = marksB W k ++ [mkB W k] := by
 unfold marksB; rw [List.range_succ, List.map_append, ← List.append_assoc]; rfl
theorem mkM_len (W : Wd) : ∀ k, (mkM W k).length ≤ k
 | 0 => Nat.le_refl 0
 | k + 1 => by
  have := mkM_len W k
  rw [mkM, List.length_append]; split <;> simp <;> omega
theorem marksB_len (W : Wd) (k : Nat) : (marksB W k).length = k + 1 := by unfold marksB; simp
theorem mkT_snoc {l : List Trp} {k : Nat} {t : Trp} (hk : k < l.length) (ht : l.getD k default = t) : (l.take (k + 1)).map mkT = (l.take k).map mkT ++ [mkT t] := by
 rw [← ht, List.getD_eq_getElem?_getD, List.getElem?_eq_getElem hk, ← List.take_append_getElem hk, List.map_append]; rfl
end
section
open Go.RowKit
structure SV where
 a : Option Addr
 n : Nat
 c : Nat
instance : Inhabited SV := ⟨⟨none, 0, 0⟩⟩
def svRep : Rep SV := Rep.flat 1 (λ v => [.slice v.a v.n v.c]) (λ _ => True) (λ _ u => ∃ a n c, u = .slice a n c) (λ _ => rfl) (by intro a u hu; simp at hu; subst hu; rfl) (by
 intro a j u hu
 cases j with
 | zero => simp at hu; exact ⟨_, _, _, hu.symm⟩
 | succ j => simp at hu)
theorem hcV {w : World} {cs : List Value} {a : SV} (h : svRep.has w cs a) : cs = [.slice a.a a.n a.c] := And.left (show cs = [.slice a.a a.n a.c] ∧ True from h)
def Tells (w : World) (T : List SV) (L : List (List Odr)) : Prop := T.length = L.length ∧ ∀ (i : Nat) (v : SV), T[i]? = some v → ∃ l : List Odr, L[i]? = some l ∧ v.n = l.length ∧ Odr.rep.SHas 48 w v.a v.c l
section
variable {w w' : World} {T T' : List SV} {L L' : List (List Odr)} {W : Wd} {l : List Odr} {k : Nat} {e : Int} {V : Wd} {ms : List (BitVec 64)}
theorem Tells.keep (h : Tells w T L) (hx : Ext w w') : Tells w' T L := ⟨h.1, λ i v hi => by
 obtain ⟨l, h1, h2, h3⟩ := h.2 i v hi
 exact ⟨l, h1, h2, h3.keep hx⟩⟩
theorem Tells.nil : Tells w [] [] := ⟨rfl, λ i v h => by simp at h⟩
theorem Tells.one {A : Option Addr} {c : Nat} (h : Odr.rep.SHas 48 w A c l) : Tells w [⟨A, l.length, c⟩] [l] := ⟨rfl, λ i v hi => by
 match i, hi with
 | 0, hi => obtain rfl := (Option.some.inj hi); exact ⟨l, rfl, rfl, h⟩⟩
theorem Tells.at_ (h : Tells w T L) (hk : k < T.length) : ∃ A c l, T[k]? = some ⟨A, l.length, c⟩ ∧ L[k]? = some l ∧ Odr.rep.SHas 48 w A c l := by
 obtain ⟨v, hv⟩ : ∃ v, T[k]? = some v := ⟨_, List.getElem?_eq_getElem hk⟩
 obtain ⟨l, h1, h2, h3⟩ := h.2 k v hv
 obtain ⟨a, n, c⟩ := v
 dsimp only at h2 h3
 subst h2
 exact ⟨a, c, l, hv, h1, h3⟩
noncomputable def runW (W : Wd) (L : List (List Odr)) : Wd := L.foldl turnW W
noncomputable def runX (W : Wd) : List (List Odr) → List (BitVec 64)
 | [] => [markN W]
 | l :: r => markN W :: runX (turnW W l) r
noncomputable def runE (W : Wd) : List (List Odr) → Int
 | [] => 0
 | l :: r => if turnE W l ≠ 0 then turnE W l else runE (turnW W l) r
def RRes (W : Wd) (L : List (List Odr)) (e : Int) (V : Wd) (ms : List (BitVec 64)) : Prop := (e = 0 ∧ L.length ≤ 200 ∧ W.chk = 0 ∧ runE W L = 0 ∧ V = runW W L ∧ ms = runX W L) ∨ (e ≠ 0 ∧ (200 < L.length ∨ W.chk ≠ 0 ∨ runE W L ≠ 0) ∧ V = Wd.zero ∧ ms = [])
theorem runW_app : runW W (L ++ L') = runW (runW W L) L' := List.foldl_append
theorem runX_len : ∀ (L : List (List Odr)) (W : Wd), (runX W L).length = L.length + 1
 | [], _ => rfl
 | l :: r, W => by rw [runX, List.length_cons, List.length_cons, runX_len r]
theorem runX_snoc : ∀ (L : List (List Odr)) (W : Wd), runX W (L ++ [l]) = runX W L ++ [markN (turnW (runW W L) l)]
 | [], _ => rfl
 | l :: r, W => by rw [List.cons_append, runX, runX, runX_snoc r]; rfl
theorem runE_app : ∀ (L : List (List Odr)) (W : Wd), runE W (L ++ L') = if runE W L ≠ 0 then runE W L else runE (runW W L) L'
 | [], W => by rw [List.nil_append]; unfold runE; rw [if_neg (by simp)]; rfl
 | l :: r, W => by
  rw [List.cons_append, runE, runE]
  by_cases h : turnE W l ≠ 0
  ·rw [if_pos h, if_pos h, if_pos h]
  ·rw [if_neg h, if_neg h, runE_app r]; rfl
theorem runE_one : runE W [l] = turnE W l := by
 unfold runE
 split
 ·rfl
 ·rename_i h; unfold runE; have : turnE W l = 0 := by simpa using h
  rw [this]
theorem take_snoc_ {α : Type} {L : List α} {l : α} (h : L[k]? = some l) : L.take (k + 1) = L.take k ++ [l] := by
 have hk := (List.getElem?_eq_some_iff.1 h).1
 have e := (List.getElem?_eq_some_iff.1 h).2
 rw [← e, List.take_append_getElem]
theorem run_step (h0 : runE W (L.take k) = 0) (hl : L[k]? = some l) : runE W (L.take (k + 1)) = turnE (runW W (L.take k)) l := by
 rw [take_snoc_ hl, runE_app, if_neg (by simpa using h0), runE_one]
theorem run_bad (h0 : runE W (L.take k) ≠ 0) : runE W L ≠ 0 := by
 have : L = L.take k ++ L.drop k := (List.take_append_drop k L).symm
 rw [this, runE_app, if_pos h0]; exact h0
theorem RRes.ok (h : RRes W L e V ms) (h0 : e = 0) : L.length ≤ 200 ∧ W.chk = 0 ∧ runE W L = 0 ∧ V = runW W L ∧ ms = runX W L := by
 rcases h with ⟨_, h⟩ | ⟨h1, _⟩
 ·exact h
 ·exact absurd h0 h1
theorem RRes.zero (h : RRes W L e V ms) (h1 : L.length ≤ 200) (h2 : W.chk = 0) (h3 : runE W L = 0) : e = 0 ∧ V = runW W L ∧ ms = runX W L := by
 rcases h with ⟨h0, _, _, _, h4, h5⟩ | ⟨_, h4, _⟩
 ·exact ⟨h0, h4, h5⟩
 ·omega
end
end
section
open Go.RowKit
theorem turn_small_any (A : Option Addr) (c : Nat) (w : World) (a : Wd.At) (hW : Wd.Has w a smallW) (hl : Odr.rep.SHas 48 w A c [(⟨0, 3, 1, ⟨2, 0⟩, 0⟩ : Odr)]) :
  Calls Tryz.prog 18 #[.agg (Wd.cells a smallW).toArray, .slice A 1 c] w (λ e w' => ∃ a' A0 c0 A1 c1 A2 c2, e = .returned (.tuple #[.agg (Wd.cells a' tickV).toArray, .agg #[.slice A0 0 c0, .slice A1 0 c1, .slice A2 1 c2], .int .i64 0]) ∧ WOwn w' w.heap.size a' tickV ∧
   repI.SOwn 3 8 w' w.heap.size (Rep.blkOf A0) A0 c0 ([] : List Int) ∧ repI.SOwn 3 8 w' w.heap.size (Rep.blkOf A1) A1 c1 ([] : List Int) ∧ repB.SOwn 4 1 w' w.heap.size (Rep.blkOf A2) A2 c2 [true] ∧
   (∀ q, (q ∈ Rep.blkOf A0 ∨ q ∈ Rep.blkOf A1 ∨ q ∈ Rep.blkOf A2) → q ∉ WOwn.foot a') ∧ Ext w w') := by
 refine (turn_any a smallW A c tickL w hW hl).mono ?_
 rintro e w' ⟨a', A0, c0, A1, c1, A2, c2, rfl, h1, h2, h3, h4, h5, h6⟩
 obtain ⟨e1, e2, e3, e4, e5⟩ := turn_small
 rw [e1, e2, e3, e4, e5]
 rw [e2] at h1
 rw [e3] at h2
 rw [e4] at h3
 rw [e5] at h4
 exact ⟨a', A0, c0, A1, c1, A2, c2, rfl, h1, h2, h3, h4, h5, h6⟩
theorem tickLives_any  (w : World) :
  Calls Tryz.prog 6 #[] w (λ e w' => e = .returned (.bool true) ∧ Ext w w') := by
 refine calls_W (n := 40) Tryz.func6 rfl rfl rfl ?_
 refine sg <| va rfl <| nK <| sg <| ca eF164 rfl rfl ((small_any _).mono ?_)
 rintro e w_4 ⟨a_1, rfl, HO_1, x_5⟩
 refine ⟨_, rfl, ?_⟩
 have := x_5.size
 have z_4 := eT (Ext.rf w) x_5
 have u_2 := λ q hq => (HO_1.lt q hq).2
 have lo_3 := λ q hq => (HO_1.lt q hq).1
 refine vL (v := .agg #[.int .i64 2, .int .i64 0]) (bd rfl (by kernel_rfl)) <| vL (v := .agg #[.int .i64 0, .int .i64 3, .int .i64 1, .int .i64 2, .int .i64 0, .int .i64 0]) (bd rfl (by kernel_rfl)) <| bs (e := 66) (cs := [.int .i64 0, .int .i64 3, .int .i64 1, .int .i64 2, .int .i64 0, .int .i64 0]) rfl (λ _ => by kernel_rfl) rfl λ w_7 b_8 x_9 l_10 B_11 => ?_
 have := x_9.size
 have z_7 := eT z_4 x_9
 have q_13 := B_11.lt
 have HO_1 := HO_1.later x_9
 refine ca eF165 rfl rfl ((turn_small_any _ _ _ _ HO_1.has (Blk.hasN (R := Odr.rep) (by_ := 48) (k := [(⟨0, 3, 1, ⟨2, 0⟩, 0⟩ : Odr)]) B_11 [[.int .i64 0, .int .i64 3, .int .i64 1, .int .i64 2, .int .i64 0, .int .i64 0]] rfl (⟨⟨rfl, ⟨okI_iff.2 (by (try dsimp only); omega), okI_iff.2 (by (try dsimp only); omega), okI_iff.2 (by (try dsimp only); omega), okI_iff.2 (by (try dsimp only); omega), okI_iff.2 (by (try dsimp only); omega), okI_iff.2 (by (try dsimp only); omega)⟩⟩, trivial⟩) (by simp) (by simp))).mono ?_)
 rintro e w_31 ⟨a14, A140, c140, A141, c141, A142, c142, rfl, HO14, OR140, OR141, OR142, hd14, x_32⟩
 refine ⟨_, rfl, ?_⟩
 have := x_32.size
 have z_31 := eT z_7 x_32
 have u_15 := λ q hq => (HO14.lt q hq).2
 have lo_16 := λ q hq => (HO14.lt q hq).1
 have u_17 := λ q hq => (OR140.lt q hq).2
 have lo_18 := λ q hq => (OR140.lt q hq).1
 have u_19 := λ q hq => (OR141.lt q hq).2
 have lo_20 := λ q hq => (OR141.lt q hq).1
 have u_21 := λ q hq => (OR142.lt q hq).2
 have lo_22 := λ q hq => (OR142.lt q hq).1
 have dd140 : ∀ q ∈ Rep.blkOf A140, q ∈ WOwn.foot a14 → False := λ q hq => hd14 q (.inl hq)
 have dw140 : ∀ q ∈ WOwn.foot a14, q ∈ Rep.blkOf A140 → False := λ q h1 h2 => dd140 q h2 h1
 have dd141 : ∀ q ∈ Rep.blkOf A141, q ∈ WOwn.foot a14 → False := λ q hq => hd14 q (.inr (.inl hq))
 have dw141 : ∀ q ∈ WOwn.foot a14, q ∈ Rep.blkOf A141 → False := λ q h1 h2 => dd141 q h2 h1
 have dd142 : ∀ q ∈ Rep.blkOf A142, q ∈ WOwn.foot a14 → False := λ q hq => hd14 q (.inr (.inr hq))
 have dw142 : ∀ q ∈ WOwn.foot a14, q ∈ Rep.blkOf A142 → False := λ q h1 h2 => dd142 q h2 h1
 refine vm rfl <| vL (ex rfl rfl) <| vL (ex rfl rfl) <| vL (ex rfl rfl) <| al rfl eF80 rfl rfl λ w_34 b_35 x_36 l_37 B_38 => ?_
 have := x_36.size
 have z_34 := eT z_31 x_36
 have q_40 := B_38.lt
 refine al rfl eF152 rfl rfl λ w_41 b_42 x_43 l_44 B_45 => ?_
 have := x_43.size
 have z_41 := eT z_34 x_43
 have q_47 := B_45.lt
 have B_38 := B_38.later x_43
 refine st rfl rfl B_38 rfl eF62 rfl rfl rfl λ w_48 m_49 B_38 => ?_
 have := m_49.size
 have z_48 := Ext.mod z_41 m_49 (ge1 (by omega))
 have := m_49.size
 have B_45 := B_45.mod m_49 (nm1 (by omega))
 refine st (new := [.slice A140 0 c140, .slice A141 0 c141, .slice A142 1 c142]) rfl rfl B_45 rfl eF154 rfl rfl rfl λ w_52 m_53 B_45 => ?_
 have := m_53.size
 have z_52 := Ext.mod z_48 m_53 (ge1 (by omega))
 have := m_53.size
 refine va rfl <| nK <| sg <| vm rfl <| vL (beq rfl rfl) <| vm rfl <| ug rfl rfl rfl <| vL (fa eF162 rfl) <| ug rfl rfl rfl <| vL (ld rfl (B_45.one eF166 rfl)) <| ug rfl rfl rfl <| bs (e := 4) (cs := [.bool true]) rfl (λ _ => by kernel_rfl) rfl λ w_56 b_57 x_58 l_59 B_60 => ?_
 have := x_58.size
 have z_56 := eT z_52 x_58
 have q_62 := B_60.lt
 refine ug rfl rfl rfl <| ?_
 have OR142 := OR142.later (eT x_36 x_43)
 have OR142 := OR142.mod m_49 (fk1 u_21 (by omega))
 have OR142 := OR142.mod m_53 (fk1 u_21 (by omega))
 have OR142 := OR142.later x_58
 refine ca eF167 rfl rfl ((equal_B _ _ _ _ _ _ ([true]) ([true]) _ OR142.has (Blk.hasN (R := repB) (by_ := 1) (k := [true]) B_60 [[.bool true]] rfl (⟨⟨rfl, trivial⟩, trivial⟩) (by simp) (by simp))).mono ?_)
 rintro e w_63 ⟨rfl, x_64⟩
 refine ⟨_, rfl, ?_⟩
 have := x_64.size
 have z_63 := eT z_56 x_64
 refine vL (pkT rfl rfl) <| vm rfl <| vQ rfl rfl rfl rfl (λ hc => fa eF156 rfl) rfl <| ?_
 have B_38 := B_38.mod m_53 (nm1 (by omega))
 have B_38 := B_38.later (eT x_58 x_64)
 refine vQ rfl rfl rfl rfl (λ hc => ld (gt hc rfl) (B_38.one eF1 rfl)) rfl <| vQ rfl rfl rfl rfl (λ hc => beq (gt hc rfl) rfl) rfl <| vL (pA rfl rfl rfl rfl) <| vm rfl <| vQ rfl rfl rfl rfl (λ hc => fa eF64 rfl) rfl <| vQ rfl rfl rfl rfl (λ hc => ld (gt hc rfl) (B_38.one eF65 rfl)) rfl <| vQ rfl rfl rfl rfl (λ hc => ln Tryz.underlying26 (gt hc rfl)) rfl <| vQ rfl rfl rfl rfl (λ hc => beq (gt hc rfl) rfl) rfl <| vL (pA rfl rfl rfl rfl) <| vm rfl <| vQ rfl rfl rfl rfl (λ hc => fa eF64 rfl) rfl <| vQ rfl rfl rfl rfl (λ hc => ld (gt hc rfl) (B_38.one eF65 rfl)) rfl <| ?_
 have HO14 := HO14.later (eT x_36 x_43)
 have HO14 := HO14.mod m_49 (fk1 u_15 (by omega))
 have HO14 := HO14.mod m_53 (fk1 u_15 (by omega))
 have HO14 := HO14.later (eT x_58 x_64)
 refine vQ rfl rfl rfl rfl (λ hc => iA 0 Tryz.underlying26 eF66 (gt hc rfl) rfl (HO14.T.has.adr (zl 0 (by decide +kernel : 0 < (tickV.troops).length))) rfl (by decide +kernel : 0 < (tickV.troops).length)) rfl <| vQ rfl rfl rfl rfl (λ hc => fa eF109 (gt hc rfl)) rfl <| vQ rfl rfl rfl rfl (λ hc => ld (gt hc rfl) (Rep.SHas.fld hcT (HO14.T.has.adh (zl 0 (by decide +kernel : 0 < (tickV.troops).length))) 6 (get_d (l := tickV.troops) (u := default) (by decide +kernel : 0 < (tickV.troops).length)) rfl eF1)) rfl <| vQ rfl rfl rfl rfl (λ hc => beq (gt hc rfl) rfl) rfl <| vL (pA rfl rfl rfl rfl) <| va rfl <| nK <| rt <| tR (.tmp rfl .nil) <| ?_
 exact ⟨ret_true (by decide +kernel), z_63⟩
end
end Go.Proofs.YtccankldeogdlaaGreat
