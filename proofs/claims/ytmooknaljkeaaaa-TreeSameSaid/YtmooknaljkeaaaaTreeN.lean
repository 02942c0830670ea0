/-
  TreeGrows as plain mathematics, and more walks: the marks of the first texts, made one from the last on, are their root.
-/
import Derived.Test.YtmooknaljkeaaaaTreeV
set_option linter.unusedVariables false
namespace Go.Proofs.Ytmooknaljkeaaaa.Tree
open Go.RowKit Go.Proofs.Ytmooknaljkeaaaa Go.Proofs.Ytmooknaljkeaaaa.Bv Go.Proofs.Ytmooknaljkeaaaa.Mark

/-- Marks made one, from the last on. -/
def joinR : List W → W
  | [] => 0#64
  | x :: r => match r with
    | [] => x
    | y :: t => pairF x (joinR (y :: t))
theorem joinR_one (x : W) : joinR [x] = x := rfl
theorem joinR_two (x : W) (r : List W) (h : r ≠ []) : joinR (x :: r) = pairF x (joinR r) := by
  match r, h with
  | y :: t, _ => rfl
theorem growsF_nil (k e : Nat) (l : List (List UInt8)) (h : k % 2 ^ e = 0) : growsF k e l = [] := by
  induction e with
  | zero => rfl
  | succ e ih =>
    rw [bit_mod] at h
    have hp := Nat.two_pow_pos e
    have hb : k.testBit e = false := by
      cases hb : k.testBit e with
      | false => rfl
      | true => rw [hb] at h; simp at h
    rw [growsF, hb]
    exact ih (by omega)
theorem growsF_some (k e : Nat) (l : List (List UInt8)) (h : 0 < k % 2 ^ e) : growsF k e l ≠ [] := by
  induction e generalizing l with
  | zero => rw [Nat.pow_zero, Nat.mod_one] at h; omega
  | succ e ih =>
    rw [bit_mod] at h
    rw [growsF]
    cases hb : k.testBit e with
    | true => simp
    | false => rw [hb] at h; simpa using ih l (by simpa using h)
theorem split_of (e r : Nat) (h1 : 1 ≤ r) (h2 : r < 2 ^ e ∨ r = 2 ^ e) : splitN (2 ^ e + r) = 2 ^ e := by
  unfold splitN
  have hp := Nat.two_pow_pos e
  congr 1
  rw [Nat.log2_eq_iff (by omega), Nat.pow_succ]
  omega
theorem grows_root (k e : Nat) (l : List (List UInt8)) (h1 : 1 ≤ k % 2 ^ e) (h2 : k % 2 ^ e ≤ l.length) : joinR (growsF k e l) = rootL (l.take (k % 2 ^ e)) := by
  induction e generalizing l with
  | zero => rw [Nat.pow_zero, Nat.mod_one] at h1; omega
  | succ e ih =>
    rw [growsF]
    have hm := bit_mod k e
    have hp := Nat.two_pow_pos e
    have hlt := Nat.mod_lt k hp
    cases hb : k.testBit e with
    | false =>
      rw [hb] at hm
      have hm : k % 2 ^ (e + 1) = k % 2 ^ e := by simpa using hm
      rw [hm] at h1 h2 ⊢
      simpa using ih l h1 h2
    | true =>
      rw [hb] at hm
      have hm : k % 2 ^ (e + 1) = k % 2 ^ e + 2 ^ e := by simpa using hm
      rw [hm] at h1 h2 ⊢
      simp only [if_true]
      by_cases h0 : k % 2 ^ e = 0
      · rw [growsF_nil k e _ h0, joinR_one, h0, Nat.zero_add]
      · rw [joinR_two _ _ (growsF_some k e _ (by omega)), ih (l.drop (2 ^ e)) (by omega) (by rw [List.length_drop]; omega)]
        have hlen : (l.take (k % 2 ^ e + 2 ^ e)).length = 2 ^ e + k % 2 ^ e := by rw [List.length_take]; omega
        rw [root_two (l.take (k % 2 ^ e + 2 ^ e)) (by rw [hlen]; omega), hlen, split_of e _ (by omega) (.inl hlt)]
        congr 2
        · rw [List.take_take, Nat.min_eq_left (by omega)]
        · rw [List.drop_take, Nat.add_sub_cancel]
/-- The first texts tell all. -/
theorem grows_first (k e : Nat) (l l' : List (List UInt8)) (h : l.take (k % 2 ^ e) = l'.take (k % 2 ^ e)) : growsF k e l = growsF k e l' := by
  induction e generalizing l l' with
  | zero => rfl
  | succ e ih =>
    rw [growsF, growsF]
    have hm := bit_mod k e
    cases hb : k.testBit e with
    | false =>
      rw [hb] at hm
      have hm : k % 2 ^ (e + 1) = k % 2 ^ e := by simpa using hm
      rw [hm] at h
      simpa using ih l l' h
    | true =>
      rw [hb] at hm
      have hm : k % 2 ^ (e + 1) = k % 2 ^ e + 2 ^ e := by simpa using hm
      rw [hm] at h
      simp only [if_true]
      have h1 : l.take (2 ^ e) = l'.take (2 ^ e) := by
        have := congrArg (List.take (2 ^ e)) h
        rwa [List.take_take, List.take_take, Nat.min_eq_left (by omega)] at this
      have h2 : (l.drop (2 ^ e)).take (k % 2 ^ e) = (l'.drop (2 ^ e)).take (k % 2 ^ e) := by
        have := congrArg (List.drop (2 ^ e)) h
        rwa [List.drop_take, List.drop_take, Nat.add_sub_cancel] at this
      rw [h1, ih _ _ h2]
def GrowsW (w : World) (e : Ending) (w' : World) : Prop := ∃ (A : Option Addr) (n c : Nat) (k : Int), e = .returned (.tuple #[.slice A n c, .int .i64 k]) ∧ Below w.heap.size w w'
theorem grows_weak (A : Option Addr) (n c : Nat) (k : Int) (l : List ByteArray) (w : World) (hnc : n ≤ c) (hc : c ≤ 9223372036854775807) (hs : Short l) (hr : Rd w 1 A n (cellsS l)) :
    Calls Try.prog 15 #[.slice A n c, .int .i64 k] w (GrowsW w) := by
  by_cases h256 : 256 < n
  · refine (grows_long A n c k w h256).mono ?_
    rintro e w' ⟨rfl, rfl⟩
    exact ⟨_, _, _, _, rfl, Below.refl _ _⟩
  · by_cases hk : k < 0 ∨ (n : Int) < k
    · refine (grows_arg A n c k w (by omega) hk).mono ?_
      rintro e w' ⟨rfl, rfl⟩
      exact ⟨_, _, _, _, rfl, Below.refl _ _⟩
    · obtain ⟨m, rfl⟩ := Int.eq_ofNat_of_zero_le (show 0 ≤ k by omega)
      refine (grows_any A n c m l w (by omega) (by omega) hnc hc hs hr).mono ?_
      rintro e w' ⟨A', c', rfl, _, hb⟩
      exact ⟨_, _, _, _, rfl, hb⟩
def GS (_ : Nat) (u : Value) : Prop := ∃ s : ByteArray, u = .string s
theorem infoS : (Try.prog.info? 9).map (fun i => (i.zero, i.size, i.bytes)) = some (some (.string ⟨#[]⟩), 1, 16) := by kernel_rfl
def CloneS (w : World) (n : Nat) (l : List ByteArray) (e : Ending) (w' : World) : Prop :=
  ∃ A c, e = .returned (.slice A n c) ∧ Own w' w.heap.size 9 1 GS (.slice A n c) n (cellsS l) ∧ Below w.heap.size w w'
set_option maxRecDepth 100000 in
theorem clone_s {w : World} {A : Option Addr} {n c : Nat} {l : List ByteArray} (hn : n * 16 ≤ 140737488355328) (hz : A = none → n = 0) (h : Rd w 1 A n (cellsS l)) : Calls Try.prog 16 #[.slice A n c] w (CloneS w n l) := by
  obtain ⟨i0, hi, hz0, hz1, hz2⟩ := info_parts infoS
  cases A with
  | none =>
    obtain rfl : n = 0 := hz rfl
    have hl : l = [] := List.eq_nil_of_length_eq_zero (by have := h.1; rw [cellsS_len] at this; omega)
    subst hl
    refine (Try.slices_Clone_nil_f16 0 c w).mono ?_
    rintro e w' ⟨rfl, rfl⟩
    exact ⟨none, 0, rfl, Own.nil _ _ _ _ _, Below.refl _ _⟩
  | some a =>
    refine (clone_all Try.laysSlE041_f16 i0 (.string ⟨#[]⟩) 1 16 hi hz0 hz1 hz2 rfl (by decide) (by intro w; rfl) GS (fun j u hu => by match j, hu with | 0, hu => exact ⟨_, (Option.some.inj hu).symm⟩) a n c (cellsS l) w (by unfold maxLen; omega) hn h ?_ ?_).mono ?_
    · intro u hu
      unfold cellsS at hu
      obtain ⟨x, _, rfl⟩ := List.mem_map.1 hu
      rfl
    · intro j u hu
      have hu := List.mem_of_getElem? hu
      unfold cellsS at hu
      obtain ⟨x, _, rfl⟩ := List.mem_map.1 hu
      exact ⟨_, rfl⟩
    · rintro e w' ⟨v, rfl, hown, _, hb⟩
      obtain ⟨A', c', rfl, _⟩ := hown.shape
      exact ⟨A', c', rfl, hown, hb⟩
theorem equalW_empty (A B : Option Addr) (c d : Nat) (w : World) : Calls Try.prog 18 #[.slice A 0 c, .slice B 0 d] w fun e w' => e = .returned (.bool true) ∧ ∃ q, w' = w.drewN q := by
  go_enter Try.func18, Try.ntmps18
  go_wp2_with fail
  refine wp_loop_rounds 1 ?_
  rw [rounds_succ]
  go_wp2_with fail
  go_ret
  exact ⟨rfl, 0, rfl⟩
theorem allEq_same {α : Type} (eq : α → α → Bool) (h : ∀ x, eq x x = true) : ∀ l : List α, Lib.allEq eq l l = true
  | [] => rfl
  | x :: xs => by rw [Lib.allEq, h, allEq_same eq h xs]; rfl
theorem equalW_same {w : World} {A B : Option Addr} {n c d : Nat} {l : List W} (hn : n ≤ 9223372036854775807) (h1 : Rd w 1 A n (cellsW l)) (h2 : Rd w 1 B n (cellsW l)) :
    Calls Try.prog 18 #[.slice A n c, .slice B n d] w fun e w' => e = .returned (.bool true) ∧ ∃ q, w' = w.drewN q := by
  by_cases h0 : 0 < n
  · obtain ⟨b1, o1, rfl, hc1⟩ := h1.2 h0
    obtain ⟨b2, o2, rfl, hc2⟩ := h2.2 h0
    have hl : l.length = n := by have := h1.1; rw [cellsW_len] at this; omega
    have hc : ∀ (b o : Nat), (∀ j u, (cellsW l)[j]? = some u → w.cell? ⟨b, o + j, none⟩ = some u) → ∀ j, j < (l.map U).length → w.cell? ⟨b, o + j, none⟩ = some (.int .u64 (l.map U)[j]!) := by
      intro b o h j hj
      rw [List.length_map] at hj
      rw [h j _ (cellsW_get l j hj)]
      simp [hj]
    have h := Try.slices_Equal_f18 (Value.int .u64) (fun x y => x == y) (NeqAt.int _ _ _) b1 o1 n c b2 o2 n d (l.map U) (l.map U) w (by simp; omega) (by simp; omega) hn hn (hc b1 o1 hc1) (hc b2 o2 hc2)
    rw [allEq_same _ (fun x => by simp)] at h
    exact h
  · obtain rfl : n = 0 := by omega
    exact equalW_empty A B c d w
end Go.Proofs.Ytmooknaljkeaaaa.Tree
