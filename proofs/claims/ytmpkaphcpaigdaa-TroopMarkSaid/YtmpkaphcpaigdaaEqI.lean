import Derived.Test.YtmpkaphcpaigdaaProg
import Derived.Test.YtmpkaphcpaigdaaBas
import Derived.Test.YtmpkaphcpaigdaaPackM
import Derived.Test.YtmpkaphcpaigdaaShelf
import Derived.Lib.Builder
import Derived.Lib.AppendStr
import Derived.Lib.UnsafeStr
import Derived.Laws.Externs
import Derived.Test.YtmpkaphcpaigdaaGolC
import Derived.Test.YtmpkaphcpaigdaaGol
import Derived.Handy
set_option linter.unusedVariables false
set_option linter.unusedSimpArgs false
set_option maxRecDepth 100000
set_option maxHeartbeats 4000000
namespace Go.Proofs.Ytmpkaphcpaigdaa
end Go.Proofs.Ytmpkaphcpaigdaa
set_option linter.unusedVariables false
set_option linter.unusedSimpArgs false
namespace Go.Proofs.Ytmpkaphcpaigdaa.Pack
open Go.RowKit Go.Proofs.Ytmpkaphcpaigdaa.Bv

theorem infoU8 : (Try.prog.info? 5).map (fun i => (i.zero, i.size, i.bytes)) = some (some (.int .u8 0), 1, 1) := by kernel_rfl
def cells (l : List UInt8) : List Value := l.map fun b => Value.int .u8 (b.toNat : Int)
theorem cells_snoc (l : List UInt8) (b : UInt8) : cells (l ++ [b]) = cells l ++ [Value.int .u8 (b.toNat : Int)] := by unfold cells; simp
theorem cells_get (l : List UInt8) (i : Nat) (h : i < l.length) : (cells l)[i]? = some (.int .u8 (l[i].toNat : Int)) := by unfold cells; simp [h]
def strOf (l : List UInt8) : ByteArray := ⟨l.toArray⟩
theorem strOf_size (l : List UInt8) : (strOf l).size = l.length := by
 show l.toArray.size = _
 simp
theorem strOf_list (l : List UInt8) : (strOf l).data.toList = l := rfl

theorem or128 (n : Nat) : bits BinOp.or IntKind.u8 ((n : Int) % 256) 128 = (((UInt8.ofNat (n % 128 + 128)).toNat : Nat) : Int) := by
 have e : ((n : Int) % 256) = ((n % 256 : Nat) : Int) := by omega
 have h1 : n % 256 < 256 := Nat.mod_lt _ (by decide)
 have key : ∀ x : Fin 256, (x.val ||| 128) = x.val % 128 + 128 := by decide +kernel
 have h2 := key ⟨n % 256, h1⟩
 simp only at h2
 rw [e, show (128 : Int) = ((128 : Nat) : Int) from rfl, (bits_nat .u8 8 (by decide) wraps_u8 _ _ (by omega) (by decide)).2, h2]
 simp only [UInt8.toNat_ofNat']
 omega

theorem conv_bytes (w : World) (base g n cap : Nat) (l : List UInt8) (hn : n = l.length) (h : w.ownsRow base 5 1 (.slice (some ⟨g, 0, none⟩) n cap) n (cells l)) :
  (convert 101 9 (.slice (some ⟨g, 0, none⟩) n cap)).run Try.prog w = .ok (.string (strOf l)) w := by
 subst hn
 refine run_convert_bytes_back (P := Try.prog) w 101 9 5 ⟨g, 0, none⟩ cap l Try.underlying101 Try.underlying5 Try.underlying9 ?_
 intro j hj
 rw [add0, h.cellAt j (by omega), cells_get l j hj]

theorem put_any (n : Nat) (hn : n < 18446744073709551616) (x : Int) (hx : x = n) (w : World) :
  Calls Try.prog 73 #[.int .u64 x] w fun e w' => e = .returned (.string (strOf (putL n))) ∧ Below w.heap.size w w' := by
 subst hx
 obtain ⟨i0, hi, hz0, hz1, hz2⟩ := info_parts infoU8
 have HN := Lib.hid (lt_pow hn)
 clear hn
 go_enter Try.func73, Try.ntmps73
 go_wp2_with fail
 go_loopw [0, 3] (fun x v wr => ∃ (k m : Nat) (acc : List UInt8), k ≤ 9 ∧ x = .int .u64 (m : Int) ∧ Hid (m < 128 ^ (k + 1)) ∧ Hid (acc ++ putF k m = putL n) ∧ wr.ownsRow w.heap.size 5 1 v acc.length (cells acc) ∧ Below w.heap.size w wr) (fun x _ _ => (intOf x).toNat)
 case atStart => exact ⟨9, n, [], Nat.le_refl _, rfl, HN, rfl, World.ownsRow_nil _ _ _ _, Below.refl _ _⟩
 case round =>
  obtain ⟨k, m, acc, hk, rfl, HM, HA, hown, hb⟩ := hrel
  by_cases hlt : 128 ≤ m
  ·obtain ⟨k', rfl⟩ : ∃ k', k = k' + 1 := by
    cases k with
    | zero => have := HM.out; simp at this; omega
    | succ k' => exact ⟨k', rfl⟩
   obtain ⟨b, HB⟩ : ∃ b, Hid (b = UInt8.ofNat (m % 128 + 128)) := ⟨_, Lib.hid rfl⟩
   have hor := or128 m
   rw [← HB.out] at hor
   have HA2 : Hid ((acc ++ [b]) ++ putF k' (m / 128) = putL n) := by
    show _ = _
    rw [← HA.out, putF_ge (by omega), ← HB.out, List.append_assoc]; rfl
   have HM2 : Hid (m / 128 < 128 ^ (k' + 1)) := pow_lt_div HM.out
   have hal : acc.length ≤ 9 := by
    have h1 := (putL_len n).1
    have h2 := congrArg List.length HA2.out
    have h3 := (putF_len k' (m / 128)).2
    simp at h2
    omega
   have hbA := hb.alloc hb.size (.cells #[.int .u8 (b.toNat : Int)] 5)
   go_wp2_with (at_builtin; refine wpList_append_own _ rfl _ _ 101 rfl w.heap.size 5 i0 (.int .u8 0) 1 1 Try.underlying101 hi hz0 hz1 hz2 rfl (by decide) _ acc.length (cells acc) rfl (hown.alloc _) ⟨wr.heap.size, 0, none⟩ 1 1 [.int .u8 (b.toNat : Int)] rfl rfl ?d1 ?d2 ?d3 ?d4 ?d5 ?_)
   case d1 =>
    intro j u hj
    match j, hj with
    | 0, hj => simp at hj; subst hj; simp [Addr.add]
   case d2 => intro u hu; simp at hu; subst hu; rfl
   case d3 => unfold maxLen; omega
   case d4 => omega
   case d5 => have := hb.size; simp; omega
   intro v' w1 hown' hgrow _
   have hb1 := hbA.grown hgrow (by have := hb.size; simp; omega) (fun q hq => (hown.lt q hq).1)
   rw [← cells_snoc, show acc.length + 1 = (acc ++ [b]).length by simp] at hown'
   clear hgrow hown hbA hb
   go_wp2_with fail
   go_roundw
   case rel => exact ⟨k', m / 128, acc ++ [b], by omega, by go_num, HM2, HA2, hown', hb1⟩
   case measure => simp [intOf]; omega
  ·have ha : acc ++ [UInt8.ofNat m] = putL n := by rw [← HA.out, putF_lt (by omega)]
   have hm8 : (UInt8.ofNat m).toNat = m := by rw [UInt8.toNat_ofNat']; omega
   have hal : acc.length ≤ 9 := by
    have h1 := (putL_len n).1
    have h2 := congrArg List.length ha
    simp at h2
    omega
   have H8 := Lib.hid hm8
   have HA2 := Lib.hid ha
   have hbA := hb.alloc hb.size (.cells #[.int .u8 (m : Int)] 5)
   clear ha hm8
   go_wp2_with (at_builtin; refine wpList_append_own _ rfl _ _ 101 rfl w.heap.size 5 i0 (.int .u8 0) 1 1 Try.underlying101 hi hz0 hz1 hz2 rfl (by decide) _ acc.length (cells acc) rfl (hown.alloc _) ⟨wr.heap.size, 0, none⟩ 1 1 [.int .u8 (m : Int)] rfl rfl ?c1 ?c2 ?c3 ?c4 ?c5 ?_)
   case c1 =>
    intro j u hj
    match j, hj with
    | 0, hj => simp at hj; subst hj; simp [Addr.add]
   case c2 => intro u hu; simp at hu; subst hu; rfl
   case c3 => unfold maxLen; omega
   case c4 => omega
   case c5 => have := hb.size; simp; omega
   intro v' w1 hown' hgrow _
   have hb1 := hbA.grown hgrow (by have := hb.size; simp; omega) (fun q hq => (hown.lt q hq).1)
   have hcc : cells acc ++ [Value.int .u8 (m : Int)] = cells (putL n) := by rw [← HA2.out, cells_snoc, H8.out]
   have hlen : acc.length + 1 = (putL n).length := by rw [← HA2.out]; simp
   rw [hcc, hlen] at hown'
   have hex : ∃ g cap, v' = .slice (some ⟨g, 0, none⟩) (putL n).length cap := by
    rcases hown'.2 with ⟨_, h⟩ | ⟨g, cap, cur, h, _⟩
    ·omega
    ·exact ⟨g, cap, h⟩
   obtain ⟨g, cap, hv⟩ := hex
   rw [hv] at hown' ⊢
   have hcv := conv_bytes w1 _ g _ cap (putL n) rfl hown'
   clear hv hgrow hown hbA hb hcc hlen hown'
   go_wp2_with fail
   go_ret
   exact ⟨rfl, hb1⟩

theorem ret_u64 {a b : Int} (h : a = b) : Ending.returned (.int .u64 a) = .returned (.int .u64 b) := by rw [h]
theorem xor_ones (n : Nat) (h : n < 18446744073709551616) : n ^^^ 18446744073709551615 = 18446744073709551615 - n := by
 have e : (BitVec.ofNat 64 n ^^^ BitVec.allOnes 64).toNat = (~~~(BitVec.ofNat 64 n)).toNat := by rw [BitVec.xor_allOnes]
 rw [BitVec.toNat_xor, BitVec.toNat_not, BitVec.toNat_ofNat, BitVec.toNat_allOnes, Nat.mod_eq_of_lt h] at e
 exact e
theorem fold_any (x : Int) (h0 : -9223372036854775808 ≤ x) (h1 : x ≤ 9223372036854775807) (w : World) :
  Calls Try.prog 74 #[.int .i64 x] w fun e w' => e = .returned (.int .u64 (foldN x)) ∧ w = w' := by
 by_cases hx : 0 ≤ x
 ·go_enter Try.func74, Try.ntmps74
  go_wp2
  go_ret
  refine ⟨ret_u64 ?_, rfl⟩
  have e : x / 9223372036854775808 = ((0 : Nat) : Int) := by omega
  obtain ⟨m, rfl⟩ := Int.eq_ofNat_of_zero_le hx
  rw [e, show ((m : Int) * 2) = ((m * 2 : Nat) : Int) by omega, u64_xor_nat _ _ (by omega) (by omega), Nat.xor_zero]
  unfold foldN
  rw [if_pos hx]
  omega
 ·go_enter Try.func74, Try.ntmps74
  go_wp2
  go_ret
  refine ⟨ret_u64 ?_, rfl⟩
  have hx' : ¬ 0 ≤ x := by omega
  have e : IntKind.u64.wrap (x / 9223372036854775808) = ((18446744073709551615 : Nat) : Int) := by rw [IntKind.wrap_u64]; omega
  have e2 : IntKind.u64.wrap (IntKind.u64.wrap x * 2) = (((2 * x + 18446744073709551616).toNat : Nat) : Int) := by rw [IntKind.wrap_u64, IntKind.wrap_u64]; omega
  rw [e, e2, u64_xor_nat _ _ (by omega) (by omega)]
  unfold foldN
  rw [if_neg hx']
  have e3 : (2 * x + 18446744073709551616).toNat ^^^ 18446744073709551615 = 18446744073709551615 - (2 * x + 18446744073709551616).toNat := by
   exact xor_ones _ (by omega)
  rw [e3]
  omega

def GetPost (l : List UInt8) (w : World) (e : Ending) (w' : World) : Prop :=
 ∃ (n : Nat) (rest : List UInt8) (k : Int), GetIs l n rest k ∧ e = .returned (.tuple #[.int .u64 (n : Int), .string (strOf rest), .int .i64 k]) ∧ Below w.heap.size w w'

end Go.Proofs.Ytmpkaphcpaigdaa.Pack
namespace Go.Proofs.Ytmpkaphcpaigdaa
section
open Go.RowKit
def cellsI (l : List Int) : List Value := l.map (Value.int .i64)
theorem cellsI_get (l : List Int) (i : Nat) (h : i < l.length) : (cellsI l)[i]? = some (.int .i64 l[i]) := by unfold cellsI; simp [h]
def GI (_ : Nat) (u : Value) : Prop := ∃ n : Int, u = .int .i64 n
def I64 (l : List Int) : Prop := ∀ x ∈ l, -9223372036854775808 ≤ x ∧ x ≤ 9223372036854775807
end
end Go.Proofs.Ytmpkaphcpaigdaa
set_option linter.unusedVariables false
set_option linter.unusedSimpArgs false
namespace Go.Proofs.Ytmpkaphcpaigdaa.Pack
open Go.Proofs.Ytmpkaphcpaigdaa Go.Proofs.Ytmpkaphcpaigdaa.Bv

theorem first_low {n k : Nat} {r : List UInt8} (hn : n < 18446744073709551616) (hk : k < (putL n ++ r).length) (hh : ∀ i (h : i < (putL n ++ r).length), i < k → 128 ≤ ((putL n ++ r)[i]).toNat) (hl : ((putL n ++ r)[k]).toNat < 128) : k + 1 = (putL n).length := by
 have h1 := (putL_len n).2
 rcases Nat.lt_trichotomy (k + 1) (putL n).length with h | h | h
 ·rw [List.getElem_append_left (by omega)] at hl
  have := putF_high 9 n k (lt_pow hn) h (by show k < (putL n).length; omega)
  have e : (putF 9 n)[k]'(by show k < (putL n).length; omega) = (putL n)[k]'(by omega) := rfl
  rw [e] at this
  omega
 ·exact h
 ·have h2 := hh ((putL n).length - 1) (by simp; omega) (by omega)
  rw [List.getElem_append_left (by omega)] at h2
  have := putF_last 9 n (lt_pow hn) ((putL n).length - 1) (by show _ < (putL n).length; omega) (by show _ = (putL n).length; omega)
  have e : (putF 9 n)[(putL n).length - 1]'(by show _ < (putL n).length; omega) = (putL n)[(putL n).length - 1]'(by omega) := rfl
  rw [e] at this
  omega
theorem get_put {n : Nat} {r : List UInt8} {m : Nat} {rest : List UInt8} {e : Int} (hn : n < 18446744073709551616) (h : GetIs (putL n ++ r) m rest e) : m = n ∧ rest = r ∧ e = 0 := by
 have hlen := putL_len n
 have hlow : ∃ i, ∃ hi : i < (putL n ++ r).length, i < 10 ∧ ((putL n ++ r)[i]).toNat < 128 := by
  refine ⟨(putL n).length - 1, by simp; omega, by omega, ?_⟩
  rw [List.getElem_append_left (by omega)]
  exact putF_last 9 n (lt_pow hn) ((putL n).length - 1) (by show _ < (putL n).length; omega) (by show _ = (putL n).length; omega)
 rcases h with ⟨k, hk, hkl, hh, hl, h⟩ | ⟨_, hall, _⟩ | ⟨_, hall, _⟩
 ·have hk1 := first_low hn hkl hh (hl hkl)
  have ht : (putL n ++ r).take (k + 1) = putL n := by rw [hk1, List.take_left]
  have hv : val (putL n) % 18446744073709551616 = n := by rw [val_putL n hn, Nat.mod_eq_of_lt hn]
  rw [ht, hv] at h
  rcases h with ⟨_, h2, h3, h4⟩ | ⟨h1, _⟩
  ·refine ⟨h2, ?_, h4⟩
   rw [h3, hk1, List.drop_left]
  ·exact absurd rfl h1
 ·obtain ⟨i, hi, _, hlow⟩ := hlow
  have := hall i hi
  omega
 ·obtain ⟨i, hi, hi10, hlow⟩ := hlow
  have := hall i hi hi10
  omega
def unfoldN (n : Nat) : Int := if n % 2 = 0 then ((n / 2 : Nat) : Int) else -((n / 2 : Nat) : Int) - 1
theorem foldN_lt (x : Int) (h0 : -9223372036854775808 ≤ x) (h1 : x ≤ 9223372036854775807) : foldN x < 18446744073709551616 := by
 unfold foldN
 split <;> omega
def items (l : List Int) : List UInt8 := l.flatMap fun x => putL (foldN x)
def putAllL (l : List Int) : List UInt8 := putL l.length ++ items l
theorem items_cons (x : Int) (l : List Int) : items (x :: l) = putL (foldN x) ++ items l := rfl
theorem items_app (a b : List Int) : items (a ++ b) = items a ++ items b := by unfold items; rw [List.flatMap_append]
theorem items_snoc (a : List Int) (x : Int) : items (a ++ [x]) = items a ++ putL (foldN x) := by rw [items_app, items_cons]; simp [items]
theorem items_len (l : List Int) : (items l).length ≤ 10 * l.length := by
 induction l with
 | nil => simp [items]
 | cons x l ih => rw [items_cons]; have := (putL_len (foldN x)).1; simp; omega
def GotAll (s : List UInt8) (out : List Int) (e : Int) : Prop :=
 I64 out ∧ (e = 0 → s = putAllL out ∧ out.length ≤ 1000) ∧ (e ≠ 0 → out = [] ∧ ∀ l, I64 l → l.length ≤ 1000 → s ≠ putAllL l)
end Go.Proofs.Ytmpkaphcpaigdaa.Pack
namespace Go.Proofs.Ytmpkaphcpaigdaa
end Go.Proofs.Ytmpkaphcpaigdaa
set_option linter.unusedVariables false
set_option linter.unusedSimpArgs false
namespace Go.Proofs.Ytmpkaphcpaigdaa.Pack
open Go.RowKit Go.Proofs.Ytmpkaphcpaigdaa

theorem sizeB : (Try.prog.info? 125).map (·.size) = some 2 := by kernel_rfl
theorem liesB : liesAt Try.prog Try.prog.depth 125 (2 / Try.prog.cellsOf 125) 0 125 1 = true := by kernel_rfl
theorem infoByte : (Try.prog.info? 5).map (fun i => (i.zero, i.size, i.bytes)) = some (some (.int .u8 0), 1, 1) := by kernel_rfl
theorem check_used (b : Nat) (w : World) (h0 : w.cell? ⟨b, 0, none⟩ = some (.pointer (some ⟨b, 0, none⟩))) :
  Calls Try.prog 90 #[.pointer (some ⟨b, 0, none⟩)] w fun e w' => e = .returned (.tuple #[]) ∧ w' = w := by
 obtain ⟨j, hj, _⟩ := Option.map_eq_some_iff.1 sizeB
 go_enter Try.func90, Try.ntmps90
 go_wp2
 rw [Lib.run_neq_ptr_same w _ Try.underlying123 hj]
 go_wp2
 go_end0
 exact ⟨rfl, rfl⟩
theorem check_fresh (b : Nat) (w : World) (h0 : w.cell? ⟨b, 0, none⟩ = some (.pointer none)) (hsh : w.shape? b = some (125, 2)) (hfz : w.frozen? ⟨b, 0, none⟩ = false) :
  Calls Try.prog 90 #[.pointer (some ⟨b, 0, none⟩)] w fun e w' => e = .returned (.tuple #[]) ∧ w' = w.setCell ⟨b, 0, none⟩ (.pointer (some ⟨b, 0, none⟩)) := by
 obtain ⟨j, hj, hjs⟩ := Option.map_eq_some_iff.1 sizeB
 go_enter Try.func90, Try.ntmps90
 go_wp2
 rw [Lib.run_to_unsafe w ⟨b, 0, none⟩ Try.underlying123 Try.underlying159 hj (by rw [hjs]; decide) hsh (Nat.zero_lt_succ 1)]
 simp only [Result.andThen]
 rw [Oper.upon_value]
 go_wp2
 rw [run_callFunc_extern Try.func98 (by kernel_rfl) (by kernel_rfl) (by kernel_rfl) (e := Extern.AbiNoEscape.same) (by kernel_rfl)]
 rw [Lib.run_noEscape]
 simp only [Result.andThen]
 rw [Oper.upon_value]
 go_wp2
 rw [Lib.run_from_unsafe w ⟨b, 0, none⟩ Try.underlying159 Try.underlying123 hj hsh liesB]
 simp only [Result.andThen]
 rw [Oper.upon_value]
 go_wp2
 go_end0
 exact ⟨rfl, rfl⟩
theorem check_any (B b : Nat) (bs : List Value) (w : World) (h : Lib.IsBuilder 125 5 B b bs w) :
  Calls Try.prog 90 #[.pointer (some ⟨b, 0, none⟩)] w fun e w' => e = .returned (.tuple #[]) ∧ (Lib.BuilderAt 125 5 B b (.pointer (some ⟨b, 0, none⟩)) bs w' ∧ Below B w w') := by
 rcases h with h | h
 ·refine (check_fresh b w h.cell0 h.shape h.frozen0).mono ?_
  rintro e w' ⟨rfl, rfl⟩
  exact ⟨rfl, h.used _, (Below.refl B w).setCell (p := ⟨b, 0, none⟩) h.1 _⟩
 ·refine (check_used b w h.cell0).mono ?_
  rintro e w' ⟨rfl, rfl⟩
  exact ⟨rfl, h, Below.refl B _⟩
theorem write_any (B b : Nat) (bs : List Value) (s : ByteArray) (w : World) (h : Lib.IsBuilder 125 5 B b bs w) (hlen : bs.length + s.size ≤ 140737488355328) (hBw : B ≤ w.heap.size) :
  Calls Try.prog 72 #[.pointer (some ⟨b, 0, none⟩), .string s] w fun e w' => e = .returned (.tuple #[.int .i64 s.size, .nilIface]) ∧ (Lib.BuilderAt 125 5 B b (.pointer (some ⟨b, 0, none⟩)) (bs ++ Lib.strCells s) w' ∧ Below B w w') := by
 obtain ⟨i0, hi, hz0, hz1, hz2⟩ := info_parts infoByte
 go_enter Try.func72, Try.ntmps72
 go_wp2_with fail
 refine (check_any B b bs _ h).mono ?_
 rintro e w1 ⟨rfl, h1, hb1⟩
 obtain ⟨hB, v, hbk, hown, hne⟩ := h1
 have c0 : w1.cell? ⟨b, 0, none⟩ = some (.pointer (some ⟨b, 0, none⟩)) := by rw [Lib.cell_of_heap hbk]; rfl
 have c1 : w1.cell? ⟨b, 1, none⟩ = some v := by rw [Lib.cell_of_heap hbk]; rfl
 go_wp2_with (at_builtin; refine Lib.wpList_append_own_string _ rfl _ _ 101 9 rfl B 5 i0 Try.underlying101 Try.underlying9 hi hz0 hz1 hz2 _ _ _ rfl hown s rfl ?c3 ?c4 ?c5 ?_)
 case c3 => unfold maxLen; omega
 case c4 => omega
 case c5 => have := hb1.size; omega
 intro v' w2 hown' hgrow _
 have hlt : b < w1.heap.size := by
  rcases Nat.lt_or_ge b w1.heap.size with h' | h'
  ·exact h'
  ·simp [Array.getElem?_eq_none h'] at hbk
 have hb2 : w2.heap[b]? = some (.cells #[.pointer (some ⟨b, 0, none⟩), v] 125 (0, 0)) := by
  rw [hgrow.block b hlt (fun e => hne e.symm)]
  exact hbk
 have d0 : w2.cell? ⟨b, 0, none⟩ = some (.pointer (some ⟨b, 0, none⟩)) := by rw [Lib.cell_of_heap hb2]; rfl
 have d1 : w2.cell? ⟨b, 1, none⟩ = some v := by rw [Lib.cell_of_heap hb2]; rfl
 have f1 : w2.frozen? ⟨b, 1, none⟩ = false := Lib.frozen_of_heap hb2 1
 obtain ⟨ao, n', cap, rfl⟩ : ∃ ao n' cap, v' = .slice ao n' cap := by
  rcases hown'.2 with ⟨hv, _⟩ | ⟨g, cap, cur, hv, _⟩
  ·exact ⟨_, _, _, hv⟩
  ·exact ⟨_, _, _, hv⟩
 go_wp2
 go_ret2
 refine ⟨rfl, ?_, ?_⟩
 ·exact Lib.BuilderAt.put (T := 125) (e := 5) hB hb2 (bs' := bs ++ Lib.strCells s) (by simpa [Lib.strCells_length] using hown') (by decide)
 ·exact (hb1.grown hgrow (by have := hb1.size; omega) (fun k hk => (hown.lt k hk).1)).setCell (p := ⟨b, 1, none⟩) hB _
end Go.Proofs.Ytmpkaphcpaigdaa.Pack
namespace Go.Proofs.Ytmpkaphcpaigdaa
end Go.Proofs.Ytmpkaphcpaigdaa
set_option linter.unusedVariables false
set_option linter.unusedSimpArgs false
namespace Go.Proofs.Ytmpkaphcpaigdaa.Pack
open Go.RowKit Go.Proofs.Ytmpkaphcpaigdaa Go.Proofs.Ytmpkaphcpaigdaa.Bv

theorem built_later {T e : TypeId} {B b : Nat} {p : Value} {bs : List Value} {w w' : World} (h : Lib.BuilderAt T e B b p bs w) (hb : Below w.heap.size w w') : Lib.BuilderAt T e B b p bs w' := by
 have hlt := h.lt
 obtain ⟨hB, v, hbk, hown, hne⟩ := h
 exact ⟨hB, v, by rw [hb.block b hlt]; exact hbk, ownsRow_later hown hb, hne⟩
theorem putAll_long (A : Option Addr) (n c : Nat) (hn : 1000 < n) (w : World) :
  Calls Try.prog 48 #[.slice A n c] w fun e w' => e = .returned (.tuple #[.string ⟨#[]⟩, .int .i64 2]) ∧ w = w' := by
 have hn2 : (1000 : Int) < (n : Int) := by omega
 go_enter Try.func48, Try.ntmps48
 go_wp2_with fail
 go_ret2
 exact ⟨rfl, rfl⟩
theorem putAll_any (A : Option Addr) (n c : Nat) (l : List Int) (hl : l.length = n) (hn : n ≤ 1000) (h64 : I64 l) (w : World) (hr : Rd w 1 A n (cellsI l)) :
  Calls Try.prog 48 #[.slice A n c] w fun e w' => e = .returned (.tuple #[.string (strOf (putAllL l)), .int .i64 0]) ∧ Below w.heap.size w w' := by
 have hB : Lib.IsBuilder 125 5 w.heap.size w.heap.size [] (w.alloc (.cells #[.pointer none, .slice none 0 0] 125)) :=
  .inl ⟨Nat.le_refl _, .slice none 0 0, heap_alloc_new w _, World.ownsRow_nil _ _ _ _, by simp [Value.ownBlock]⟩
 have hb0 : Below w.heap.size w (w.alloc (.cells #[.pointer none, .slice none 0 0] 125)) := (Below.refl _ _).alloc (Nat.le_refl _) _
 have hw : IntKind.u64.wrap (n : Int) = (n : Int) := by rw [IntKind.wrap_u64]; omega
 have HL := Lib.hid hl
 clear hl
 go_enter Try.func48, Try.ntmps48
 go_wp2_with fail
 refine (put_any n (by omega) _ rfl _).mono ?_
 rintro e w1 ⟨rfl, hb1⟩
 have hB1 : Lib.IsBuilder 125 5 w.heap.size w.heap.size [] w1 := by
  rcases hB with h | h
  ·exact .inl (built_later h hb1)
  ·exact .inr (built_later h hb1)
 have hb2 := hb0.trans (hb1.mono hb0.size)
 clear hB hb1
 have hpl := putL_len n
 go_wp2_with fail
 refine (write_any w.heap.size w.heap.size [] (strOf (putL n)) w1 hB1 (by rw [strOf_size]; simp; omega) hb2.size).mono ?_
 rintro e w2 ⟨rfl, hB2, hb3⟩
 have hb4 := hb2.trans hb3
 rw [List.nil_append, Lib.strCells_eq, strOf_list] at hB2
 clear hB1 hb2 hb3
 go_wp2_with fail
 go_loopw [17] (fun i wr => ∃ k : Nat, k ≤ n ∧ i = .int .i64 (k : Int) ∧ Lib.BuilderAt 125 5 w.heap.size w.heap.size (.pointer (some ⟨w.heap.size, 0, none⟩)) (Lib.byteCells (putL n ++ items (l.take k))) wr ∧ Below w.heap.size w wr) (fun i _ => n - (intOf i).toNat)
 case atStart => exact ⟨0, Nat.zero_le _, rfl, by simpa [items] using hB2, hb4⟩
 case round =>
  clear hB2 hb4
  obtain ⟨k, hk, rfl, hB, hb⟩ := hrel
  by_cases hlt : k < n
  ·obtain ⟨b, o, rfl, hc⟩ := hr.2 (by omega)
   have hkl : k < l.length := by rw [HL.out]; exact hlt
   have hx := cell_below hb (hc k _ (cellsI_get l k hkl)) (World.block_lt_of_cell? w _ (hc k _ (cellsI_get l k hkl)))
   have hx64 := h64 l[k] (List.getElem_mem hkl)
   have htk : items (l.take (k + 1)) = items (l.take k) ++ putL (foldN l[k]) := by rw [List.take_succ_eq_append_getElem hkl, items_snoc]
   have HT := Lib.hid htk
   generalize l[k] = x at *
   have hfl := foldN_lt x hx64.1 hx64.2
   have hfold := fold_any x hx64.1 hx64.2
   have hpl2 := putL_len (foldN x)
   have hil := items_len (l.take k)
   have htl : (l.take k).length ≤ k := List.length_take_le _ _
   clear htk
   generalize foldN x = y at *
   go_wp2_with fail
   refine (hfold _).mono ?_
   rintro e w' ⟨rfl, rfl⟩
   go_wp2_with fail
   refine (put_any y hfl _ rfl _).mono ?_
   rintro e w5 ⟨rfl, hb5⟩
   have hB5 := built_later hB hb5
   have hb6 := hb.trans (hb5.mono hb.size)
   go_wp2_with fail
   refine (write_any w.heap.size w.heap.size _ (strOf (putL y)) w5 (.inr hB5) (by rw [strOf_size, Lib.byteCells_length]; simp; omega) hb6.size).mono ?_
   rintro e w6 ⟨rfl, hB6, hb7⟩
   have hb8 := hb6.trans hb7
   rw [Lib.strCells_eq, strOf_list, ← Lib.byteCells_append, List.append_assoc, ← HT.out] at hB6
   clear hB hB5 hb hb5 hb6 hb7
   go_wp2_with fail
   go_roundw
   case rel => exact ⟨k + 1, by omega, by go_num, hB6, hb8⟩
   case measure => simp [intOf]; omega
  ·obtain rfl : k = n := by omega
   rw [List.take_of_length_le (by rw [HL.out]; exact Nat.le_refl _)] at hB
   go_wp2_with fail
   refine (Try.Builder_String_any w.heap.size w.heap.size (putL k ++ items l) wr (.inr hB) hb.size).mono ?_
   rintro e w9 ⟨rfl, hb9⟩
   go_wp2_with fail
   go_ret2
   refine ⟨?_, hb.trans hb9⟩
   unfold putAllL strOf
   rw [HL.out]
   rfl
def GetAllPost (s : ByteArray) (w : World) (e : Ending) (w' : World) : Prop :=
 ∃ (out : List Int) (k : Int) (A : Option Addr) (n c : Nat), GotAll s.data.toList out k ∧ e = .returned (.tuple #[.slice A n c, .int .i64 k]) ∧ Own w' w.heap.size 3 1 GI (.slice A n c) out.length (cellsI out) ∧ Below w.heap.size w w'
end Go.Proofs.Ytmpkaphcpaigdaa.Pack
namespace Go.Proofs.Ytmpkaphcpaigdaa
section
open Go.RowKit Go.Proofs.Ytmpkaphcpaigdaa.Bv
def repU : Rep (BitVec 64) := Rep.flat 1 (λ b => [.int .u64 (U b)]) (λ _ => True) (λ _ u => ∃ n : Int, u = .int .u64 n) (λ _ => rfl) (by intro a u hu; simp at hu; subst hu; rfl) (by
 intro a j u hu
 cases j with
 | zero => simp at hu; exact ⟨_, hu.symm⟩
 | succ j => simp at hu)
theorem info_u64 : (Try.prog.info? 29).map (λ i => (i.zero, i.size, i.bytes)) = some (some (.int .u64 0), 1, 8) := by kernel_rfl
theorem raw0U : ∀ (j : Nat) u, (Value.int .u64 0).cells[j]? = some u → repU.raw j u := by
 intro j u hu
 have hu : (#[(.int .u64 0 : Value)] : Array Value)[j]? = some u := hu
 match j, hu with
 | 0, hu => exact ⟨0, (Option.some.inj hu).symm⟩
 | j + 1, hu => simp at hu
theorem sl_of {by_ : Nat} {w : World} {A : Option Addr} {c : Nat} {l : List (BitVec 64)} (h : repU.SHas by_ w A c l) : Mark.Sl w A l.length l := by
 refine ⟨rfl, h.len_le, ?_⟩
 cases hl : l with
 | nil => exact .inl rfl
 | cons x r =>
  rw [← hl]
  obtain ⟨b, o, e, hc⟩ := h.at_ (by rw [hl]; simp)
  refine .inr ⟨b, o, e, λ i hi => ?_⟩
  obtain ⟨es, ⟨rfl, _⟩, hj⟩ := hc i _ (List.getElem?_eq_getElem hi)
  have := hj 0 _ rfl
  simpa [repU, Rep.flat] using this
theorem flat_intsU {w : World} : ∀ {ess : List (List Value)} {l : List Int}, All2 (λ es a => repI.has w es a) ess l → ess.flatten = l.map (Value.int .i64)
 | [], [], _ => rfl
 | es :: ess, a :: l, h => by
  obtain ⟨h1, h2⟩ := h
  rw [List.flatten_cons, hcI h1, flat_intsU h2]; rfl
 | [], _ :: _, h => h.elim
 | _ :: _, [], h => h.elim
def packN (l : List Int) : List UInt8 := if l.length ≤ 1000 then Pack.putAllL l else []
def leafN (l : List Int) : BitVec 64 := Tree.leafF (packN l)
theorem packN_len (l : List Int) : (packN l).length ≤ 20000 := by
 unfold packN
 split
 ·rename_i h
  unfold Pack.putAllL; rw [List.length_append]
  have := (Pack.putL_len l.length).1
  have := Pack.items_len l
  omega
 ·simp
theorem pack_leaf (l : List Int) (A : Option Addr) (c : Nat) (w : World) (h : repI.SHas 8 w A c l) : Calls Try.prog 48 #[.slice A l.length c] w λ e w' => (∃ k, e = .returned (.tuple #[.string (Pack.strOf (packN l)), .int .i64 k])) ∧ Ext w w' := by
 unfold packN
 by_cases hn : l.length ≤ 1000
 ·rw [if_pos hn]
  have hr : Rd w 1 A l.length (cellsI l) := by
   obtain ⟨s1, s2, s3, s4, ess, s5, s6⟩ := h
   rw [flat_intsU s5] at s6; exact s6
  exact (Pack.putAll_any A l.length c l rfl hn (λ x hx => okI_iff.1 (repI_ok h x hx)) w hr).mono λ e w' h => ⟨⟨0, h.1⟩, h.2⟩
 ·rw [if_neg hn]
  exact (Pack.putAll_long A l.length c (by omega) w).mono λ e w' h => ⟨⟨2, h.1⟩, by rw [← h.2]; exact Ext.rf w⟩
theorem leaf_text (s : List UInt8) (hs : s.length ≤ 20000) (w : World) : Calls Try.prog 49 #[.string (Pack.strOf s)] w λ e w' => e = .returned (.int .u64 (U (Tree.leafF s))) ∧ Ext w w' := by
 refine (Tree.leaf_any (Pack.strOf s) (by rw [Pack.strOf_size]; omega) w).mono ?_
 rintro e w' ⟨rfl, q, rfl⟩
 exact ⟨by rw [Pack.strOf_list], below_drewN (Below.refl _ w) q⟩
theorem of_leaf (l : List (BitVec 64)) (A : Option Addr) (c : Nat) (w : World) (h : repU.SHas 8 w A c l) : Calls Try.prog 24 #[.slice A l.length c] w λ e w' => e = .returned (.int .u64 (U (Mark.ofF Mark.mix l))) ∧ Ext w w' := Mark.of_any A l.length c l w (sl_of h)
def mkF (W : Wd) : BitVec 64 := leafN ([1, W.field.wide, W.field.high, W.next, W.now] ++ W.field.places)
def mkB (W : Wd) (i : Nat) : BitVec 64 := leafN [2, (i : Int), (W.bases.getD i default).x, (W.bases.getD i default).y, W.stocks.getD i 0]
def mkM (W : Wd) : Nat → List (BitVec 64)
 | 0 => []
 | k + 1 => mkM W k ++ (if W.mines.getD k 0 = 0 then [] else [leafN [3, (k : Int), W.mines.getD k 0]])
def mkT (t : Trp) : BitVec 64 := leafN [4, t.id, t.owner, t.kind, t.spot.x, t.spot.y, t.life, t.load]
def marksB (W : Wd) (k : Nat) : List (BitVec 64) := [mkF W] ++ (List.range k).map (mkB W)
def marks (W : Wd) : List (BitVec 64) := marksB W W.bases.length ++ mkM W W.mines.length ++ W.troops.map mkT
def markN (W : Wd) : BitVec 64 := if W.chk = 0 then Mark.ofF Mark.mix (marks W) else 0#64
theorem marksB_succ (W : Wd) (k : Nat) : marksB W (k + 1) = marksB W k ++ [mkB W k] := by
 unfold marksB; rw [List.range_succ, List.map_append, ← List.append_assoc]; rfl
theorem mkM_len (W : Wd) : ∀ k, (mkM W k).length ≤ k
 | 0 => Nat.le_refl 0
 | k + 1 => by
  have := mkM_len W k
  rw [mkM, List.length_append]; split <;> simp <;> omega
theorem marksB_len (W : Wd) (k : Nat) : (marksB W k).length = k + 1 := by unfold marksB; simp
theorem mkT_snoc {l : List Trp} {k : Nat} {t : Trp} (hk : k < l.length) (ht : l.getD k default = t) : (l.take (k + 1)).map mkT = (l.take k).map mkT ++ [mkT t] := by
 rw [← ht, List.getD_eq_getElem?_getD, List.getElem?_eq_getElem hk, ← List.take_append_getElem hk, List.map_append]; rfl
end
section
open Go.RowKit
section
variable {α : Type} {p : α → Bool} {l L : List α} {d : α} {i j k : Nat}
theorem mem_dd (h : k < l.length) : l.getD k d ∈ l := by rw [List.getD_eq_getElem?_getD, List.getElem?_eq_getElem h]; exact List.getElem_mem h
end
end
section
open Go.RowKit
theorem ret_bool {a b : Bool} (h : a = b) : Ending.returned (.bool a) = .returned (.bool b) := by rw [h]
theorem below_alloc0 (w : World) (o : Obj) : Below w.heap.size w (w.alloc o) := (Below.refl _ w).alloc (Nat.le_refl _) o
theorem equal_I (A B : Option Addr) (c d b1 b2 : Nat) (l m : List Int) (w : World) (h1 : repI.SHas b1 w A c l) (h2 : repI.SHas b2 w B d m) :
  Calls Try.prog 29 #[.slice A l.length c, .slice B m.length d] w λ e w' => e = .returned (.bool (decide (l = m))) ∧ Below w.heap.size w w' := by
 obtain ⟨n, HN⟩ : ∃ n, Hid (l.length = n) := ⟨_, Lib.hid rfl⟩
 obtain ⟨n2, HM⟩ : ∃ n, Hid (m.length = n) := ⟨_, Lib.hid rfl⟩
 have hle : n ≤ 9223372036854775807 := by have := h1.len_le; rw [HN.out] at this; exact this
 have H1 := Lib.hid h1
 have H2 := Lib.hid h2
 clear h1 h2
 rw [HN.out, HM.out]
 by_cases hnn : n = n2
 ·subst hnn
  have hd : ((n : Int) != (n : Int)) = false := by simp
  go_enter Try.func29, Try.ntmps29
  go_wp2_with fail
  clear hd
  go_loopw [5, 13] (λ _ iv wr => ∃ (k q : Nat), k ≤ n ∧ iv = .int .i64 (k : Int) ∧ Hid (l.take k = m.take k) ∧ Hid (wr = w.drewN q)) (λ _ iv _ => n - (intOf iv).toNat)
  case atStart => exact ⟨0, 0, Nat.zero_le _, rfl, (by show _ = _; simp), rfl⟩
  case round =>
   obtain ⟨k, q, hk, rfl, HK, HW⟩ := hrel
   have hbr : Below w.heap.size w wr := by rw [HW.out]; exact below_drewN (Below.refl _ w) q
   by_cases hlt : k < n
   ·obtain ⟨x, hx⟩ := get_of (l := l) (i := k) (by rw [HN.out]; exact hlt)
    obtain ⟨y, hy⟩ := get_of (l := m) (i := k) (by rw [HM.out]; exact hlt)
    obtain ⟨b1, o1, rfl, hc1⟩ := repI_at (H1.out.keep hbr) (by rw [HN.out]; omega)
    obtain ⟨b2, o2, rfl, hc2⟩ := repI_at (H2.out.keep hbr) (by rw [HM.out]; omega)
    have q0 := hc1 k x hx
    have r0 := hc2 k y hy
    have hki : (k : Int) < (n : Int) := by omega
    have hk0 : (0 : Int) ≤ (k : Int) := by omega
    have htl : l.take (k + 1) = l.take k ++ [x] := by rw [List.take_add_one, hx]; rfl
    have htm : m.take (k + 1) = m.take k ++ [y] := by rw [List.take_add_one, hy]; rfl
    have HTL := Lib.hid htl
    have HTM := Lib.hid htm
    have HX := Lib.hid hx
    have HY := Lib.hid hy
    clear hc1 hc2 htl htm hx hy
    by_cases hxy : x = y
    ·subst hxy
     have HK2 : Hid (l.take (k + 1) = m.take (k + 1)) := Lib.hid (by rw [HTL.out, HTM.out, HK.out])
     go_wp2_with fail
     go_quiet (fail)
     go_wp2_with fail
     go_roundw
     case rel => exact ⟨k + 1, _, by omega, by go_num, HK2, by show _ = _; rw [HW.out]; simp; rfl⟩
     case measure => simp [intOf]; omega
    ·have HF : Hid (decide (l = m) = false) := Lib.hid (decide_eq_false λ e => hxy (by have h1 := HX.out; rw [e, HY.out] at h1; exact (Option.some.inj h1).symm))
     have hne : (x == y) = false := by simpa using hxy
     have hne2 : (x != y) = true := by simpa using hxy
     clear hxy
     go_wp2_with fail
     go_quiet (fail)
     go_wp2_with fail
     go_ret
     exact ⟨ret_bool HF.out.symm, below_drewN hbr _⟩
   ·have HT : Hid (decide (l = m) = true) := Lib.hid (decide_eq_true (by have := HK.out; rw [List.take_of_length_le (by rw [HN.out]; omega), List.take_of_length_le (by rw [HM.out]; omega)] at this; exact this))
    clear HK
    go_wp2_with fail
    go_ret
    exact ⟨ret_bool HT.out.symm, hbr⟩
 ·have HF : Hid (decide (l = m) = false) := Lib.hid (decide_eq_false λ e => hnn (by rw [← HN.out, ← HM.out, e]))
  have hd : ((n : Int) != (n2 : Int)) = true := by simp; omega
  rw [HF.out]
  go_enter Try.func29, Try.ntmps29
  go_wp2_with fail
  go_ret
  exact ⟨rfl, Below.refl _ _⟩
end
end Go.Proofs.Ytmpkaphcpaigdaa
