/-
  The walk of mustkeep.sides.
-/
import Derived.Test.YtmooknaljkeaaaaTreeH
set_option linter.unusedVariables false
namespace Go.Proofs.Ytmooknaljkeaaaa.Tree
open Go.RowKit Go.Proofs.Ytmooknaljkeaaaa Go.Proofs.Ytmooknaljkeaaaa.Bv Go.Proofs.Ytmooknaljkeaaaa.Mark

def cellsB (l : List Bool) : List Value := l.map Value.bool
theorem cellsB_len (l : List Bool) : (cellsB l).length = l.length := by unfold cellsB; simp
theorem cellsB_get (l : List Bool) (i : Nat) (h : i < l.length) : (cellsB l)[i]? = some (.bool l[i]) := by unfold cellsB; simp [h]
theorem cellsB_snoc (l : List Bool) (x : Bool) : cellsB (l ++ [x]) = cellsB l ++ [.bool x] := by unfold cellsB; simp
def GB (_ : Nat) (u : Value) : Prop := ∃ b : Bool, u = .bool b
theorem infoBool : (Try.prog.info? 4).map (fun i => (i.zero, i.size, i.bytes)) = some (some (.bool false), 1, 1) := by kernel_rfl
theorem gb_zero : ∀ j u, (Value.bool false).cells[j]? = some u → GB j u := fun j u hu => by match j, hu with | 0, hu => exact ⟨false, (Option.some.inj hu).symm⟩
theorem gb_one {x : Bool} : ∀ j u, [Value.bool x][j]? = some u → GB (j % 1) u := fun q u hq => by match q, hq with | 0, hq => exact ⟨_, (Option.some.inj hq).symm⟩
theorem bool_cell {x : Bool} : ∀ u ∈ [Value.bool x], u.oneCell' = true := by intro u hu; simp at hu; subst hu; rfl
theorem rd_lit1 (W : World) (u : Value) (t : TypeId) : Rd (W.alloc (.cells #[u] t)) 1 (some ⟨W.heap.size, 0, none⟩) 1 [u] :=
  ⟨rfl, fun _ => ⟨W.heap.size, 0, rfl, fun q u' hq => by
    match q, hq with
    | 0, hq => simp at hq; subst hq; simp⟩⟩
def SidesPost (w : World) (t : List Bool) (e : Ending) (w' : World) : Prop := ∃ A c, e = .returned (.slice A t.length c) ∧ Own w' w.heap.size 4 1 GB (.slice A t.length c) t.length (cellsB t) ∧ Below w.heap.size w w'
theorem split_pow {n j : Nat} (h1 : 2 ^ j < n) (h2 : n ≤ 2 * 2 ^ j) : splitN n = 2 ^ j := by
  unfold splitN
  have : Nat.log2 (n - 1) = j := by
    rw [Nat.log2_eq_iff (by omega)]
    rw [Nat.pow_succ]
    omega
  rw [this]
theorem sidesF_le (f at_ n : Nat) : (sidesF f at_ n).length ≤ f := by
  induction f generalizing at_ n with
  | zero => simp [sidesF]
  | succ f ih =>
    rw [sidesF]
    split
    · simp
    · split
      · have := ih at_ (splitN n); simp; omega
      · have := ih (at_ - splitN n) (n - splitN n); simp; omega
set_option maxRecDepth 100000 in
set_option maxHeartbeats 4000000 in
theorem sides_any (f : Nat) : ∀ (at_ n : Nat) (w : World), n ≤ f → f ≤ 256 → 1 ≤ n → at_ < n →
    Calls Try.prog 24 #[.int .i64 (at_ : Int), .int .i64 (n : Int)] w (SidesPost w (sidesF f at_ n)) := by
  induction f with
  | zero => intro at_ n w h1 h2 h3; omega
  | succ f ih =>
    intro at_ n w hf h256 h1 hat
    by_cases hn : n = 1
    · subst hn
      have he : sidesF (f + 1) at_ 1 = [] := by rw [sidesF, if_pos rfl]
      rw [he]
      have hone : (((1 : Nat) : Int) == 1) = true := rfl
      clear ih he
      go_enter Try.func24, Try.ntmps24
      go_wp2_with fail
      go_ret
      exact ⟨none, 0, rfl, Own.nil _ _ _ _ _, Below.refl _ _⟩
    · have hn1 : ((n : Int) == 1) = false := by rw [beq_eq_false_iff_ne]; omega
      obtain ⟨i0, hi, hz0, hz1, hz2⟩ := info_parts infoBool
      have hsp := split_lt (n := n) (by omega)
      have he : sidesF (f + 1) at_ n = if at_ < splitN n then sidesF f at_ (splitN n) ++ [false] else sidesF f (at_ - splitN n) (n - splitN n) ++ [true] := by
        rw [sidesF, if_neg hn]
      rw [he]
      have HSP : Hid (∀ j, 2 ^ j < n → n ≤ 2 * 2 ^ j → 2 ^ j = splitN n) := fun j h1 h2 => (split_pow h1 h2).symm
      have hT := fun W => ih at_ (splitN n) W (by omega) (by omega) hsp.1
      have hR := fun W h => ih (at_ - splitN n) (n - splitN n) W (by omega) (by omega) (by omega) h
      have hl1 := sidesF_le f at_ (splitN n)
      have hl2 := sidesF_le f (at_ - splitN n) (n - splitN n)
      generalize sidesF f at_ (splitN n) = t1 at *
      generalize sidesF f (at_ - splitN n) (n - splitN n) = t2 at *
      generalize splitN n = s at *
      unfold SidesPost at hT hR
      clear he ih
      generalize hres : (if at_ < s then t1 ++ [false] else t2 ++ [true]) = res
      have HRES := Lib.hid hres
      clear hres
      go_enter Try.func24, Try.ntmps24
      go_wp2_with fail
      go_loop [5] (fun m => ∃ j : Nat, m = .int .i64 ((2 ^ j : Nat) : Int) ∧ 2 ^ j < n) (fun m => n - (intOf m).toNat)
      case atStart => exact ⟨0, rfl, by show 1 < n; omega⟩
      case round =>
        obtain ⟨j, rfl, hj⟩ := hrel
        have hpp : 2 ^ (j + 1) = 2 ^ j * 2 := Nat.pow_succ 2 j
        by_cases hlt : 2 * 2 ^ j < n
        · have HP := Lib.hid hpp
          clear hpp
          have hp1 : 0 < 2 ^ j := Nat.two_pow_pos j
          generalize hP : 2 ^ j = P at *
          have HPE := Lib.hid hP
          clear hP hT hR
          go_wp2_with fail
          go_round
          case rel => exact ⟨j + 1, by rw [HP.out]; go_num, by rw [HP.out]; omega⟩
          case measure => simp [intOf]; omega
        · have hE := HSP.out j hj (by omega)
          rw [hE] at hlt hj ⊢
          clear hpp hE
          by_cases hs : at_ < s
          · obtain rfl : t1 ++ [false] = res := by rw [← HRES.out, if_pos hs]
            go_wp2_with fail
            refine (hT w hs).mono ?_
            rintro e w1 ⟨A1, c1, rfl, ho, hb1⟩
            have HO := Lib.hid (ho.later ((Below.refl _ _).alloc (Nat.le_refl _) (.cells #[.bool false] 4)))
            have hb2 : Below w.heap.size w (w1.alloc (.cells #[.bool false] 4)) := hb1.alloc hb1.size _
            clear ho hT hR
            go_wp2_with (at_builtin; refine wpList_append_all _ rfl _ _ 38 rfl w.heap.size 4 i0 (.bool false) 1 1 Try.underlying38 hi hz0 hz1 hz2 rfl (by decide) GB gb_zero _ t1.length (cellsB t1) rfl HO.out (some ⟨w1.heap.size, 0, none⟩) 1 1 [.bool false] rfl (rd_lit1 _ _ _) bool_cell gb_one ?g4 ?g5 ?g6 ?_)
            case g4 => unfold maxLen; omega
            case g5 => omega
            case g6 => exact hb2.size
            intro v' w3 hown3 hgrow _ hat'
            have hb3 := hb2.grown hgrow hb2.size (fun q hq => (HO.out.row.lt q hq).1)
            rw [← cellsB_snoc] at hown3
            have hlen : t1.length + 1 = (t1 ++ [false]).length := by simp
            rw [hlen] at hown3
            obtain ⟨A3, c3, rfl, _⟩ := hown3.shape
            have HO3 := Lib.hid hown3
            clear hown3 hgrow hat' hlen HO
            go_wp2_with fail
            go_ret
            exact ⟨A3, c3, rfl, HO3.out, hb3⟩
          · obtain rfl : t2 ++ [true] = res := by rw [← HRES.out, if_neg hs]
            have hR2 := hR w (by omega)
            have e1 : ((at_ - s : Nat) : Int) = (at_ : Int) - (s : Int) := by omega
            have e2 : ((n - s : Nat) : Int) = (n : Int) - (s : Int) := by omega
            rw [e1, e2] at hR2
            clear e1 e2
            go_wp2_with fail
            refine hR2.mono ?_
            rintro e w1 ⟨A1, c1, rfl, ho, hb1⟩
            have HO := Lib.hid (ho.later ((Below.refl _ _).alloc (Nat.le_refl _) (.cells #[.bool true] 4)))
            have hb2 : Below w.heap.size w (w1.alloc (.cells #[.bool true] 4)) := hb1.alloc hb1.size _
            clear ho hT hR hR2
            go_wp2_with (at_builtin; refine wpList_append_all _ rfl _ _ 38 rfl w.heap.size 4 i0 (.bool false) 1 1 Try.underlying38 hi hz0 hz1 hz2 rfl (by decide) GB gb_zero _ t2.length (cellsB t2) rfl HO.out (some ⟨w1.heap.size, 0, none⟩) 1 1 [.bool true] rfl (rd_lit1 _ _ _) bool_cell gb_one ?g4 ?g5 ?g6 ?_)
            case g4 => unfold maxLen; omega
            case g5 => omega
            case g6 => exact hb2.size
            intro v' w3 hown3 hgrow _ hat'
            have hb3 := hb2.grown hgrow hb2.size (fun q hq => (HO.out.row.lt q hq).1)
            rw [← cellsB_snoc] at hown3
            have hlen : t2.length + 1 = (t2 ++ [true]).length := by simp
            rw [hlen] at hown3
            obtain ⟨A3, c3, rfl, _⟩ := hown3.shape
            have HO3 := Lib.hid hown3
            clear hown3 hgrow hat' hlen HO
            go_wp2_with fail
            go_ret
            exact ⟨A3, c3, rfl, HO3.out, hb3⟩
end Go.Proofs.Ytmooknaljkeaaaa.Tree
