/-
  The walks of mark.Mix, mark.Turn, mark.all, mark.Of and mark.Change: each returns what the plain mathematics says; for every word and list.
-/
import Derived.Test.YtnbelagjgmjehaaProg
import Derived.Test.YtnbelagjgmjehaaBase
import Derived.Test.YtnbelagjgmjehaaMarkM
set_option linter.unusedVariables false
namespace Go.Proofs.Ytnbelagjgmjehaa.Mark
open Go.RowKit Go.Proofs.Ytnbelagjgmjehaa.Bv

theorem ret_u64 {a b : Int} (h : a = b) : Ending.returned (.int .u64 a) = .returned (.int .u64 b) := by rw [h]

theorem wrap_u (x : Int) : IntKind.u64.wrap x = U (BitVec.ofInt 64 x) := by
  refine eq64 ?_ ?_ (of_wrap64 x)
  · rw [IntKind.wrap_u64]; omega
  · rw [IntKind.wrap_u64]; omega
theorem add_num (a : W) : IntKind.u64.wrap (U a + 11400714819323198485) = U (a + gold) := by
  rw [wrap_u, of_add, of_U]; rfl
theorem sub_num (a : W) : IntKind.u64.wrap (U a - 11400714819323198485) = U (a - gold) := by
  rw [wrap_u, of_sub, of_U]; rfl
theorem mul1_num (a : W) : IntKind.u64.wrap (U a * 13787848793156543929) = U (a * c1) := by
  rw [wrap_u, of_mul, of_U]; rfl
theorem mul2_num (a : W) : IntKind.u64.wrap (U a * 10723151780598845931) = U (a * c2) := by
  rw [wrap_u, of_mul, of_U]; rfl
theorem mul_num (a b : W) : IntKind.u64.wrap (U a * U b) = U (a * b) := by
  rw [wrap_u, of_mul, of_U, of_U]
theorem xs_num (k : Nat) (a : W) : bits BinOp.xor IntKind.u64 (U a) (U a / 2 ^ k) = U (xs k a) := by
  refine eq64 (bits64_nonneg _ _ _) (bits64_lt _ _ _) ?_
  rw [of_xor64, of_shr (n := 64) (U a) k (U_nonneg a) (by have := U64_lt a; omega), of_U]
  rfl
theorem xs30 (a : W) : bits BinOp.xor IntKind.u64 (U a) (U a / 1073741824) = U (xs 30 a) := xs_num 30 a
theorem xs27 (a : W) : bits BinOp.xor IntKind.u64 (U a) (U a / 134217728) = U (xs 27 a) := xs_num 27 a
theorem xs31 (a : W) : bits BinOp.xor IntKind.u64 (U a) (U a / 2147483648) = U (xs 31 a) := xs_num 31 a
theorem xs60 (a : W) : bits BinOp.xor IntKind.u64 (U a) (U a / 1152921504606846976) = U (xs 60 a) := xs_num 60 a
theorem xs54 (a : W) : bits BinOp.xor IntKind.u64 (U a) (U a / 18014398509481984) = U (xs 54 a) := xs_num 54 a
theorem xs62 (a : W) : bits BinOp.xor IntKind.u64 (U a) (U a / 4611686018427387904) = U (xs 62 a) := xs_num 62 a

theorem mix_any (x : Int) (n : W) (hx : x = U n) (w : World) :
    Calls Try.prog 25 #[.int .u64 x] w fun e w' => e = .returned (.int .u64 (U (mix n))) ∧ w = w' := by
  subst hx
  go_enter Try.func25, Try.ntmps25
  go_wp2
  go_ret
  refine ⟨ret_u64 ?_, rfl⟩
  rw [add_num, xs30, mul1_num, xs27, mul2_num, xs31]
  rfl

theorem turn_any (x y : Int) (m n : W) (hx : x = U m) (hy : y = U n) (w : World) :
    Calls Try.prog 42 #[.int .u64 x, .int .u64 y] w fun e w' => e = .returned (.int .u64 (U (turnF mix m n))) ∧ w = w' := by
  subst hx hy
  go_enter Try.func42, Try.ntmps42
  go_wp2_with (go_at_call 25; refine (mix_any _ n rfl _).mono ?_; rintro e w' ⟨rfl, rfl⟩)
  go_ret
  exact ⟨ret_u64 (by refine eq64 (bits64_nonneg _ _ _) (bits64_lt _ _ _) ?_; rw [of_xor64, of_U, of_U]; rfl), rfl⟩

/-- A slice value that reads as a list of words. -/
def Sl (w : World) (a : Option Addr) (n : Nat) (zs : List W) : Prop :=
  n = zs.length ∧ n ≤ 9223372036854775807 ∧ (zs = [] ∨ ∃ b off, a = some ⟨b, off, none⟩ ∧ ∀ i (h : i < zs.length), w.cell? ⟨b, off + i, none⟩ = some (.int .u64 (U zs[i])))

theorem mix_zero (w : World) : Calls Try.prog 25 #[.int .u64 0] w fun e w' => e = .returned (.int .u64 16294208416658607535) ∧ w = w' :=
  (mix_any 0 0#64 (by decide +kernel) w).mono fun e w' ⟨he, hw⟩ => ⟨he.trans (ret_u64 (by decide +kernel)), hw⟩

def alls (zss : List (List W)) (m : W) : W := zss.foldl (fun m l => allF mix l m) m
theorem alls_snoc (zss : List (List W)) (l : List W) (m : W) : alls (zss ++ [l]) m = allF mix l (alls zss m) := by unfold alls; rw [List.foldl_append]; rfl
theorem take_snoc {α : Type} (l : List α) (k : Nat) (h : k < l.length) : l.take (k + 1) = l.take k ++ [l[k]] := List.take_succ_eq_append_getElem h

theorem all_any (b c : Nat) (vs : List (Option Addr × Nat × Nat)) (zss : List (List W)) (w : World) (hn : vs.length = zss.length) (hc : c ≤ 100) (hcv : vs.length ≤ 100)
    (hcell : ∀ i (h : i < vs.length), w.cell? ⟨b, i, none⟩ = some (.slice vs[i].1 vs[i].2.1 vs[i].2.2)) (hsl : ∀ i (h : i < vs.length) (h' : i < zss.length), Sl w vs[i].1 vs[i].2.1 zss[i]) :
    Calls Try.prog 38 #[.slice (some ⟨b, 0, none⟩) vs.length c] w fun e w' => e = .returned (.int .u64 (U (alls zss 0#64))) ∧ w = w' := by
  obtain ⟨N, HN⟩ : ∃ N, Hid (N = vs.length) := ⟨_, Lib.hid rfl⟩
  have HC := Lib.hid hcell
  have HS := Lib.hid hsl
  have HL := Lib.hid hn
  rw [← HN.out] at hcv ⊢
  clear hcell hsl hn
  go_enter Try.func38, Try.ntmps38
  go_wp2
  go_loop [3, 10] (fun v i => ∃ k : Nat, k ≤ N ∧ i = .int .i64 k ∧ v = .int .u64 (U (alls (zss.take k) 0#64))) (fun _ i => N - (intOf i).toNat)
  case atStart => exact ⟨0, Nat.zero_le _, rfl, rfl⟩
  case round =>
    obtain ⟨k, hk, rfl, rfl⟩ := hrel
    by_cases hlt : k < N
    · have hkv : k < vs.length := by have := HN.out; omega
      have hkz : k < zss.length := by have := HL.out; omega
      have h1 := HC.out k hkv
      have h2 := HS.out k hkv hkz
      obtain ⟨l, HZ⟩ : ∃ l, Hid (zss[k] = l) := ⟨_, Lib.hid rfl⟩
      rw [HZ.out] at h2
      generalize vs[k].1 = a at h1 h2
      generalize vs[k].2.1 = n at h1 h2
      generalize vs[k].2.2 = c' at h1 h2
      obtain ⟨h3, h4, h5⟩ := h2
      have HE := Lib.hid h3
      clear h3
      generalize hM : alls (zss.take k) 0#64 = M
      have hM' : alls (zss.take (k + 1)) 0#64 = allF mix l M := by rw [take_snoc _ _ hkz, alls_snoc, hM, HZ.out]
      have HM := Lib.hid hM'
      clear hM hM'
      rcases h5 with hnil | ⟨b', off, rfl, hcl⟩
      · have hn0 : n = 0 := by rw [HE.out, hnil]; rfl
        have HNil := Lib.hid hnil
        subst hn0
        clear hnil
        go_wp2_with fail
        refine wp_loop_rounds 1 ?_
        rw [rounds_succ]
        go_wp2_with fail
        go_round
        case rel => exact ⟨k + 1, by omega, by go_num, by rw [HM.out, HNil.out]; rfl⟩
        case measure => simp [intOf]; omega
      · have HCL := Lib.hid hcl
        clear hcl
        go_wp2_with fail
        go_loop [3, 16] (fun v i => ∃ q : Nat, q ≤ n ∧ i = .int .i64 q ∧ v = .int .u64 (U (allF mix (l.take q) M))) (fun _ i => n - (intOf i).toNat)
        case atStart => exact ⟨0, Nat.zero_le _, rfl, rfl⟩
        case round =>
          obtain ⟨q, hq, rfl, rfl⟩ := hrel
          by_cases hqn : q < n
          · have hql : q < l.length := by have := HE.out; omega
            have hcq := HCL.out q hql
            generalize hZ : l[q] = z at hcq
            generalize hM2 : allF mix (l.take q) M = M2
            have HM2 := Lib.hid (show allF mix (l.take (q + 1)) M = turnF mix M2 z by rw [take_snoc _ _ hql, allF_snoc, hM2, hZ])
            clear hZ hM2 h1
            go_wp2_with (go_at_call 42; (with_reducible refine (turn_any _ _ M2 z rfl rfl _).mono ?_); rintro e w' ⟨rfl, rfl⟩)
            go_round
            case rel => exact ⟨q + 1, by omega, by go_num, by rw [HM2.out]⟩
            case measure => simp [intOf]; omega
          · have hqn' : n = q := by omega
            subst hqn'
            have hl : l.take n = l := List.take_of_length_le (by have := HE.out; omega)
            rw [hl, ← HM.out]
            clear hl h1
            go_wp2_with fail
            go_round
            case rel => exact ⟨k + 1, by omega, by go_num, rfl⟩
            case measure => simp [intOf]; omega
    · have hkn : N = k := by omega
      subst hkn
      have e : zss.take N = zss := List.take_of_length_le (by have := HL.out; have := HN.out; omega)
      rw [e]
      clear e
      go_wp2_with fail
      go_ret
      exact ⟨rfl, rfl⟩

theorem Sl.later {w w' : World} {a : Option Addr} {n : Nat} {zs : List W} (h : Sl w a n zs) (hb : Below w.heap.size w w') : Sl w' a n zs := by
  obtain ⟨h1, h2, h3⟩ := h
  refine ⟨h1, h2, ?_⟩
  rcases h3 with h3 | ⟨b, off, ha, hc⟩
  · exact .inl h3
  · refine .inr ⟨b, off, ha, fun i hi => ?_⟩
    rw [hb.cell (World.block_lt_of_cell? w _ (hc i hi))]
    exact hc i hi

theorem all_one (b n c : Nat) (a : Option Addr) (l : List W) (w : World) (h : w.cell? ⟨b, 0, none⟩ = some (.slice a n c)) (hs : Sl w a n l) :
    Calls Try.prog 38 #[.slice (some ⟨b, 0, none⟩) 1 1] w fun e w' => e = .returned (.int .u64 (U (ofF mix l))) ∧ w = w' := by
  refine (all_any b 1 [(a, n, c)] [l] w rfl (by decide) (by simp) ?_ ?_).mono fun e w' h => h
  · intro i hi
    match i, hi with
    | 0, _ => exact h
  · intro i hi _
    match i, hi with
    | 0, _ => exact hs
theorem all_two (b n c n' c' : Nat) (a a' : Option Addr) (l l' : List W) (w : World) (h : w.cell? ⟨b, 0, none⟩ = some (.slice a n c)) (h' : w.cell? ⟨b, 1, none⟩ = some (.slice a' n' c')) (hs : Sl w a n l) (hs' : Sl w a' n' l') :
    Calls Try.prog 38 #[.slice (some ⟨b, 0, none⟩) 2 2] w fun e w' => e = .returned (.int .u64 (U (ofF mix l ^^^ ofF mix l'))) ∧ w = w' := by
  refine (all_any b 2 [(a, n, c), (a', n', c')] [l, l'] w rfl (by decide) (by simp) ?_ ?_).mono fun e w' h => ⟨h.1.trans (ret_u64 ?_), h.2⟩
  · intro i hi
    match i, hi with
    | 0, _ => exact h
    | 1, _ => exact h'
  · intro i hi _
    match i, hi with
    | 0, _ => exact hs
    | 1, _ => exact hs'
  · rw [← allF_xor]; rfl

theorem of_any (a : Option Addr) (n c : Nat) (l : List W) (w : World) (hs : Sl w a n l) :
    Calls Try.prog 32 #[.slice a n c] w fun e w' => e = .returned (.int .u64 (U (ofF mix l))) ∧ Below w.heap.size w w' := by
  have hb := (Below.refl w.heap.size w).alloc (Nat.le_refl _) (.cells #[.slice a n c] 47)
  have hs2 := hs.later hb
  go_enter Try.func32, Try.ntmps32
  go_wp2_with fail
  refine (all_one _ n c a l _ (by simp [World.cell?_alloc_new]) hs2).mono ?_
  rintro e w' ⟨rfl, rfl⟩
  go_wp2_with fail
  go_ret
  exact ⟨rfl, hb⟩

theorem change_any (m : W) (a a' : Option Addr) (n c n' c' : Nat) (l l' : List W) (w : World) (hs : Sl w a n l) (hs' : Sl w a' n' l') :
    Calls Try.prog 33 #[.int .u64 (U m), .slice a n c, .slice a' n' c'] w fun e w' => e = .returned (.int .u64 (U (m ^^^ (ofF mix l ^^^ ofF mix l')))) ∧ Below w.heap.size w w' := by
  have hb := (Below.refl w.heap.size w).alloc (Nat.le_refl _) (.cells #[.slice a n c, .slice a' n' c'] 47)
  have hs2 := hs.later hb
  have hs3 := hs'.later hb
  go_enter Try.func33, Try.ntmps33
  go_wp2_with fail
  refine (all_two _ n c n' c' a a' l l' _ (by simp [World.cell?_alloc_new]) (by simp [World.cell?_alloc_new]) hs2 hs3).mono ?_
  rintro e w' ⟨rfl, rfl⟩
  go_wp2_with fail
  go_ret
  exact ⟨ret_u64 (by refine eq64 (bits64_nonneg _ _ _) (bits64_lt _ _ _) ?_; rw [of_xor64, of_U, of_U]), hb⟩

theorem of_zero (w : World) (b : Nat) (h : w.cell? ⟨b, 0, none⟩ = some (.int .u64 0)) : Calls Try.prog 32 #[.slice (some ⟨b, 0, none⟩) 1 1] w fun e w' => e = .returned (.int .u64 16294208416658607535) ∧ Below w.heap.size w w' := by
  refine (of_any (some ⟨b, 0, none⟩) 1 1 [0#64] w ⟨rfl, by decide, .inr ⟨b, 0, rfl, fun i hi => ?_⟩⟩).mono fun e w' ⟨he, hw⟩ => ⟨he.trans (ret_u64 ?_), hw⟩
  · match i, hi with
    | 0, _ => exact h
  · rw [ofF_one]; decide +kernel
theorem lives_any (w : World) :
    Calls Try.prog 24 #[] w fun e w' => e = .returned (.bool true) ∧ Below w.heap.size w w' := by
  go_enter Try.func24, Try.ntmps24
  go_wp2_with (go_at_call 25; (with_reducible refine (mix_zero _).mono ?_); rintro e w' ⟨rfl, rfl⟩)
  refine (of_zero _ _ (by simp [World.cell?_alloc_new])).mono ?_
  rintro e w' ⟨rfl, hb⟩
  go_wp2_with fail
  go_ret
  exact ⟨rfl, ((Below.refl w.heap.size w).alloc (Nat.le_refl _) _).trans (hb.mono (by simp))⟩
end Go.Proofs.Ytnbelagjgmjehaa.Mark
