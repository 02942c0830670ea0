/-
  The walks of bits.OnesCount32 and of package vote.
-/
import Derived.Test.YtclobldldddjnaaProg
import Derived.Test.YtclobldldddjnaaBase
import Derived.Test.YtclobldldddjnaaBv
import Derived.Test.YtclobldldddjnaaVoteM
set_option linter.unusedVariables false
namespace Go.Proofs.Ytclobldldddjnaa.Vote
open Go.RowKit Go.Proofs.Ytclobldldddjnaa Go.Proofs.Ytclobldldddjnaa.Bv

theorem ret_int {a b : Int} (h : a = b) : Ending.returned (.int .i64 a) = .returned (.int .i64 b) := by rw [h]
theorem and255 (a : Nat) (h : a < 4294967296) : bits .and .u32 (a : Int) 255 = ((a % 256 : Nat) : Int) := by
  have h1 := (bits_nat .u32 32 (by decide) (fun n h0 h1 => by simp [IntKind.wrap, IntKind.signed, IntKind.bits]; omega) a 255 (by omega) (by omega)).1
  have e : a &&& 255 = a % 256 := Nat.and_two_pow_sub_one_eq_mod a 8
  rw [e] at h1
  exact h1
set_option maxRecDepth 100000 in
@[go_sem high] theorem fold_tab : (⟨((([0, 1, 1, 2, 1, 2, 2, 3, 1, 2, 2, 3, 2, 3, 3, 4, 1, 2, 2, 3, 2, 3, 3, 4, 2, 3, 3, 4, 3, 4, 4, 5, 1, 2, 2, 3, 2, 3, 3, 4, 2, 3, 3, 4, 3, 4, 4, 5, 2, 3, 3, 4, 3, 4, 4, 5, 3, 4, 4, 5, 4, 5, 5, 6] : List UInt8).append [1, 2, 2, 3, 2, 3, 3, 4, 2, 3, 3, 4, 3, 4, 4, 5, 2, 3, 3, 4, 3, 4, 4, 5, 3, 4, 4, 5, 4, 5, 5, 6, 2, 3, 3, 4, 3, 4, 4, 5, 3, 4, 4, 5, 4, 5, 5, 6, 3, 4, 4, 5, 4, 5, 5, 6, 4, 5, 5, 6, 5, 6, 6, 7]).append (([1, 2, 2, 3, 2, 3, 3, 4, 2, 3, 3, 4, 3, 4, 4, 5, 2, 3, 3, 4, 3, 4, 4, 5, 3, 4, 4, 5, 4, 5, 5, 6, 2, 3, 3, 4, 3, 4, 4, 5, 3, 4, 4, 5, 4, 5, 5, 6, 3, 4, 4, 5, 4, 5, 5, 6, 4, 5, 5, 6, 5, 6, 6, 7] : List UInt8).append [2, 3, 3, 4, 3, 4, 4, 5, 3, 4, 4, 5, 4, 5, 5, 6, 3, 4, 4, 5, 4, 5, 5, 6, 4, 5, 5, 6, 5, 6, 6, 7, 3, 4, 4, 5, 4, 5, 5, 6, 4, 5, 5, 6, 5, 6, 6, 7, 4, 5, 5, 6, 5, 6, 6, 7, 5, 6, 6, 7, 6, 7, 7, 8])).toArray⟩ : ByteArray) = Lib.pop8tab := by decide +kernel
set_option maxRecDepth 100000 in
set_option maxHeartbeats 4000000 in
theorem count32_any (n : Nat) (hn : n < 4294967296) (w : World) :
    Calls Try.prog 25 #[.int .u32 (n : Int)] w fun e w' => e = .returned (.int .i64 (size n : Int)) ∧ ∃ q, w' = w.drewN q := by
  have d1 : (n : Int) / 16777216 = ((n / 16777216 : Nat) : Int) := by omega
  have d2 : (n : Int) / 65536 = ((n / 65536 : Nat) : Int) := by omega
  have d3 : (n : Int) / 256 = ((n / 256 : Nat) : Int) := by omega
  have a2 := and255 (n / 65536) (by omega)
  have a3 := and255 (n / 256) (by omega)
  have a4 := and255 n hn
  have p1 := pop8_cnt (n / 16777216) (by omega)
  have p2 := pop8_cnt (n / 65536 % 256) (by omega)
  have p3 := pop8_cnt (n / 256 % 256) (by omega)
  have p4 := pop8_cnt (n % 256) (by omega)
  have i1 : (0 : Int) ≤ ((n / 16777216 : Nat) : Int) ∧ ((n / 16777216 : Nat) : Int) ≤ 255 := by omega
  have i2 : (0 : Int) ≤ ((n / 65536 % 256 : Nat) : Int) ∧ ((n / 65536 % 256 : Nat) : Int) ≤ 255 := by omega
  have i3 : (0 : Int) ≤ ((n / 256 % 256 : Nat) : Int) ∧ ((n / 256 % 256 : Nat) : Int) ≤ 255 := by omega
  have i4 : (0 : Int) ≤ ((n % 256 : Nat) : Int) ∧ ((n % 256 : Nat) : Int) ≤ 255 := by omega
  have c1 := cnt_le 8 (n / 16777216)
  have c2 := cnt_le 8 (n / 65536 % 256)
  have c3 := cnt_le 8 (n / 256 % 256)
  have c4 := cnt_le 8 (n % 256)
  rw [size_bytes n hn]
  generalize n / 16777216 = b1 at *
  generalize n / 65536 = q2 at *
  generalize n / 256 = q3 at *
  generalize q2 % 256 = b2 at *
  generalize q3 % 256 = b3 at *
  generalize hb4 : n % 256 = b4 at *
  obtain ⟨i10, i11⟩ := i1
  obtain ⟨i20, i21⟩ := i2
  obtain ⟨i30, i31⟩ := i3
  obtain ⟨i40, i41⟩ := i4
  go_enter Try.func25, Try.ntmps25
  go_wp2_with fail
  go_quiet (fail)
  go_wp2_with fail
  go_ret
  exact ⟨ret_int (by push_cast; rfl), nq, rfl⟩

theorem count_any (n : Nat) (hn : n < 4294967296) (w : World) :
    Calls Try.prog 54 #[.int .u32 (n : Int)] w fun e w' => e = .returned (.int .i64 (size n : Int)) ∧ ∃ q, w' = w.drewN q := by
  go_enter Try.func54, Try.ntmps54
  go_wp2_with fail
  refine (count32_any n hn _).mono ?_
  rintro e w' ⟨rfl, q, rfl⟩
  go_wp2_with fail
  go_ret
  exact ⟨rfl, q, rfl⟩
/-- A callee that draws, met in a region that draws. -/
theorem quiet_more {P : Program} {f : FuncId} {args : Array Value} {w : World} {n : Nat} {v : Value}
    (h : Calls P f args (w.drewN n) fun e w' => e = .returned v ∧ ∃ q, w' = (w.drewN n).drewN q) : Calls P f args (w.drewN n) fun e w'' => e = .returned v ∧ ∃ m, w'' = w.drewN m :=
  h.mono fun _ _ ⟨he, q, hm⟩ => ⟨he, n + q, by rw [hm]; simp⟩
/-- The closure: are so many in the set? -/
theorem many_any (n : Nat) (hn : n < 4294967296) (m : Int) (g : Nat) (w : World) (hg : w.cell? ⟨g, 0, none⟩ = some (.int .i64 m)) :
    Calls Try.prog 56 #[.int .u32 (n : Int), .pointer (some ⟨g, 0, none⟩)] w fun e w' => e = .returned (.bool (decide (m ≤ (size n : Int)))) ∧ ∃ q, w' = w.drewN q := by
  go_enter Try.func56, Try.ntmps56
  go_wp2_with fail
  go_quiet ((go_at_call 54; exact quiet_more (count_any n hn _)))
  go_wp2_with fail
  go_ret
  exact ⟨rfl, nq, rfl⟩

/-- The first set of so many; -1: there is none. -/
def outIdx (t : Int) : List Nat → Nat → Int
  | [], _ => -1
  | x :: xs, i => if t ≤ (size x : Int) then (i : Int) else outIdx t xs (i + 1)
/-- A row of sets. -/
def Sets (w : World) (b o : Nat) (l : List Nat) : Prop := ∀ k, (h : k < l.length) → w.cell? ⟨b, o + k, none⟩ = some (.int .u32 ((l[k] : Nat) : Int)) ∧ l[k] < 4294967296
theorem Sets.later {w w' : World} {b o : Nat} {l : List Nat} (h : Sets w b o l) (hb : Below w.heap.size w w') : Sets w' b o l :=
  fun k hk => ⟨cell_later hb (h k hk).1, (h k hk).2⟩
theorem outIdx_drop (t : Int) (l : List Nat) (k : Nat) (h : k < l.length) : outIdx t (l.drop k) k = if t ≤ (size l[k] : Int) then (k : Int) else outIdx t (l.drop (k + 1)) (k + 1) := by
  rw [List.drop_eq_getElem_cons h]; rfl
set_option maxRecDepth 100000 in
theorem index_any (l : List Nat) (b o c : Nat) (t : Int) (g : Nat) (w : World) (hl : Sets w b o l) (hn : l.length ≤ 1000) (hg : w.cell? ⟨g, 0, none⟩ = some (.int .i64 t)) :
    Calls Try.prog 55 #[.slice (some ⟨b, o, none⟩) l.length c, .func (.func 56) #[] #[.pointer (some ⟨g, 0, none⟩)]] w fun e w' => e = .returned (.int .i64 (outIdx t l 0)) ∧ ∃ q, w' = w.drewN q := by
  go_enter Try.func55, Try.ntmps55
  go_wp2_with fail
  go_loopw [8] (fun i wr => ∃ k q : Nat, k ≤ l.length ∧ i = .int .i64 (k : Int) ∧ wr = w.drewN q ∧ outIdx t l 0 = outIdx t (l.drop k) k) (fun i _ => l.length - (intOf i).toNat)
  case atStart => exact ⟨0, 0, Nat.zero_le _, rfl, rfl, rfl⟩
  case round =>
    obtain ⟨k, q, hk, rfl, rfl, hx⟩ := hrel
    by_cases hlt : k < l.length
    · obtain ⟨h1, h2⟩ := hl k hlt
      have h1 : (w.drewN q).cell? ⟨b, o + k, none⟩ = some (.int .u32 ((l[k] : Nat) : Int)) := h1
      have hg2 : (w.drewN q).cell? ⟨g, 0, none⟩ = some (.int .i64 t) := hg
      have hd := outIdx_drop t l k hlt
      generalize l[k] = x at h1 h2 hd
      by_cases hs : t ≤ (size x : Int)
      · rw [if_pos hs] at hd
        have ht : decide (t ≤ (size x : Int)) = true := decide_eq_true hs
        have HD := Lib.hid (hx.trans hd)
        clear hd hx hs
        go_wp2_with fail
        refine (many_any x h2 t g _ hg2).mono ?_
        rintro e w' ⟨rfl, q', rfl⟩
        rw [ht]
        go_wp2_with fail
        go_ret
        exact ⟨ret_int HD.out.symm, _, rfl⟩
      · rw [if_neg hs] at hd
        have ht : decide (t ≤ (size x : Int)) = false := decide_eq_false hs
        have HD := Lib.hid (hx.trans hd)
        clear hd hx hs
        go_wp2_with fail
        refine (many_any x h2 t g _ hg2).mono ?_
        rintro e w' ⟨rfl, q', rfl⟩
        rw [ht]
        go_wp2_with fail
        exact ⟨⟨k + 1, _, by omega, by go_num, rfl, HD.out⟩, by simp [intOf]; omega⟩
    · obtain rfl : k = l.length := by omega
      rw [List.drop_length] at hx
      have HX := Lib.hid hx
      clear hx
      go_wp2_with fail
      go_ret
      exact ⟨ret_int HX.out.symm, _, rfl⟩

/-- The least member against whom most are. -/
theorem outvoted_any (m : Nat) (hm : m < 4294967296) (l : List Nat) (b o c : Nat) (w : World) (hl : Sets w b o l) (hn : l.length ≤ 1000) (h0 : 0 < l.length) :
    Calls Try.prog 46 #[.agg #[.int .u32 (m : Int), .slice (some ⟨b, o, none⟩) l.length c]] w fun e w' => e = .returned (.int .i64 (outIdx ((size m : Int) / 2 + 1) l 0)) ∧ Below w.heap.size w w' := by
  go_enter Try.func46, Try.ntmps46
  go_wp2_with fail
  refine (count_any m hm _).mono ?_
  rintro e w' ⟨rfl, q, rfl⟩
  have hs : size m ≤ 32 := cnt_le 32 m
  have hb1 : Below w.heap.size w ((w.alloc (.cells #[.int .u32 (m : Int), .slice (some ⟨b, o, none⟩) l.length c] 46)).drewN q) := below_drewN ((Below.refl w.heap.size w).alloc (Nat.le_refl _) _) q
  have hb2 := hb1.alloc hb1.size (.cells #[.int .i64 ((size m : Int) / 2 + 1)] 3)
  have hg : (((w.alloc (.cells #[.int .u32 (m : Int), .slice (some ⟨b, o, none⟩) l.length c] 46)).drewN q).alloc (.cells #[.int .i64 ((size m : Int) / 2 + 1)] 3)).cell? ⟨w.heap.size + 1, 0, none⟩ = some (.int .i64 ((size m : Int) / 2 + 1)) := by
    have h := (Blk.new ((w.alloc (.cells #[.int .u32 (m : Int), .slice (some ⟨b, o, none⟩) l.length c] 46)).drewN q) [.int .i64 ((size m : Int) / 2 + 1)] 3 (0, 0)).cell 0
    simpa using h
  go_wp2_with fail
  refine (index_any l b o c _ (w.heap.size + 1) _ (hl.later hb2) hn hg).mono ?_
  rintro e w' ⟨rfl, q', rfl⟩
  go_wp2_with fail
  go_ret
  exact ⟨rfl, below_drewN hb2 q'⟩
end Go.Proofs.Ytclobldldddjnaa.Vote
