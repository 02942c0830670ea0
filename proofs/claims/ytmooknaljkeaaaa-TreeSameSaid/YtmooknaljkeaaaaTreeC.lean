/-
  The walks of tree.climb and tree.Holds.
-/
import Derived.Test.YtmooknaljkeaaaaTreeN
set_option linter.unusedVariables false
namespace Go.Proofs.Ytmooknaljkeaaaa.Tree
open Go.RowKit Go.Proofs.Ytmooknaljkeaaaa Go.Proofs.Ytmooknaljkeaaaa.Bv Go.Proofs.Ytmooknaljkeaaaa.Mark

/-- To the root, by a trail (its last mark is the root's). -/
def climbF : Nat → W → Nat → Nat → List W → W × Bool
  | 0, m, _, _, t => (m, t.isEmpty)
  | f + 1, m, at_, n, t =>
    if n = 1 then (m, t.isEmpty) else
    match t.getLast? with
    | none => (0#64, false)
    | some x => if at_ < splitN n then (pairF (climbF f m at_ (splitN n) t.dropLast).1 x, (climbF f m at_ (splitN n) t.dropLast).2)
      else (pairF x (climbF f m (at_ - splitN n) (n - splitN n) t.dropLast).1, (climbF f m (at_ - splitN n) (n - splitN n) t.dropLast).2)
theorem Rd.init {w : World} {A : Option Addr} {k : Nat} {t : List W} (h : Rd w 1 A (k + 1) (cellsW t)) : Rd w 1 A k (cellsW t.dropLast) := by
  have hl : t.length = k + 1 := by have := h.1; rw [cellsW_len] at this; omega
  refine ⟨by rw [cellsW_len, List.length_dropLast]; omega, fun h0 => ?_⟩
  obtain ⟨b, o, e, hc⟩ := h.2 (by omega)
  refine ⟨b, o, e, fun j u hu => hc j u ?_⟩
  have hj : j < t.dropLast.length := by have := (List.getElem?_eq_some_iff.1 hu).1; rwa [cellsW_len] at this
  rw [cellsW_get _ j hj] at hu
  rw [cellsW_get t j (by rw [List.length_dropLast] at hj; omega), ← hu, List.getElem_dropLast]
def ClimbPost (w : World) (r : W × Bool) (e : Ending) (w' : World) : Prop := e = .returned (.tuple #[.int .u64 (U r.1), .bool r.2]) ∧ w = w'
set_option maxRecDepth 100000 in
set_option maxHeartbeats 1000000 in
theorem climb_any (f : Nat) : ∀ (m : W) (at_ n : Nat) (A : Option Addr) (k c : Nat) (t : List W) (w : World), n ≤ f → 1 ≤ n → n ≤ 256 → at_ < n → k ≤ c → c ≤ 9223372036854775807 → Rd w 1 A k (cellsW t) →
    Calls Try.prog 52 #[.int .u64 (U m), .int .i64 (at_ : Int), .int .i64 (n : Int), .slice A k c] w (ClimbPost w (climbF f m at_ n t)) := by
  induction f with
  | zero => intro m at_ n A k c t w h1 h2; omega
  | succ f ih =>
    intro m at_ n A k c t w hf h1 h256 hat hkc hc hr
    have hl : t.length = k := by have := hr.1; rw [cellsW_len] at this; omega
    by_cases hn : n = 1
    · subst hn
      have he : climbF (f + 1) m at_ 1 t = (m, t.isEmpty) := by rw [climbF, if_pos rfl]
      have hd : t.isEmpty = ((k : Int) == 0) := by
        rw [← hl]
        cases t with
        | nil => rfl
        | cons x r => simp; omega
      rw [he, hd]
      clear ih hr he hd hl
      have hone : (((1 : Nat) : Int) == 1) = true := rfl
      go_enter Try.func52, Try.ntmps52
      go_wp2_with fail
      go_ret2
      exact ⟨rfl, rfl⟩
    · have hn1 : ((n : Int) == 1) = false := by rw [beq_eq_false_iff_ne]; omega
      cases k with
      | zero =>
        have ht : t = [] := List.eq_nil_of_length_eq_zero hl
        subst ht
        have he : climbF (f + 1) m at_ n [] = (0#64, false) := by rw [climbF, if_neg hn]; rfl
        rw [he]
        clear ih hr he hl hn
        go_enter Try.func52, Try.ntmps52
        go_wp2_with fail
        go_ret2
        exact ⟨rfl, rfl⟩
      | succ k =>
        obtain ⟨b, o, rfl, hc'⟩ := hr.2 (by omega)
        have hsp := split_lt (n := n) (by omega)
        have hspl := split_any n (by omega) h256
        have hlast : t.getLast? = some (t[k]'(by omega)) := by rw [List.getLast?_eq_getElem?, show t.length - 1 = k from by omega, List.getElem?_eq_getElem (by omega)]
        have hx := hc' k _ (cellsW_get t k (by omega))
        have hin := Rd.init hr
        have he : climbF (f + 1) m at_ n t = if at_ < splitN n then (pairF (climbF f m at_ (splitN n) t.dropLast).1 (t[k]'(by omega)), (climbF f m at_ (splitN n) t.dropLast).2)
            else (pairF (t[k]'(by omega)) (climbF f m (at_ - splitN n) (n - splitN n) t.dropLast).1, (climbF f m (at_ - splitN n) (n - splitN n) t.dropLast).2) := by
          rw [climbF, if_neg hn, hlast]
        rw [he]
        generalize t[k]'(by omega) = x at *
        by_cases hlt : at_ < splitN n
        · rw [if_pos hlt]
          have hih := ih m at_ (splitN n) (some ⟨b, o, none⟩) k c t.dropLast w (by omega) hsp.1 (by omega) hlt (by omega) hc hin
          obtain ⟨y, ok, hy⟩ : ∃ y ok, climbF f m at_ (splitN n) t.dropLast = (y, ok) := ⟨_, _, rfl⟩
          rw [hy] at hih ⊢
          have hp := pair_any y x
          simp only []
          generalize pairF y x = z at *
          have hsx : splitN n < n := hsp.2.1
          clear he hlast hin hc' ih hr hy hl hsp hn
          generalize splitN n = s at *
          go_enter Try.func52, Try.ntmps52
          go_wp2_with fail
          refine (hspl _).mono ?_
          rintro e w' ⟨rfl, rfl⟩
          go_wp2_with fail
          refine hih.mono ?_
          rintro e w' ⟨rfl, rfl⟩
          go_wp2_with fail
          refine (hp _).mono ?_
          rintro e w' ⟨rfl, rfl⟩
          go_wp2_with fail
          go_ret2
          exact ⟨rfl, rfl⟩
        · rw [if_neg hlt]
          have hih := ih m (at_ - splitN n) (n - splitN n) (some ⟨b, o, none⟩) k c t.dropLast w (by omega) (by omega) (by omega) (by omega) (by omega) hc hin
          obtain ⟨y, ok, hy⟩ : ∃ y ok, climbF f m (at_ - splitN n) (n - splitN n) t.dropLast = (y, ok) := ⟨_, _, rfl⟩
          rw [hy] at hih ⊢
          have hp := pair_any x y
          simp only []
          generalize pairF x y = z at *
          have hsx : splitN n < n := hsp.2.1
          have hc1 : ((at_ - splitN n : Nat) : Int) = (at_ : Int) - (splitN n : Int) := by omega
          have hc2 : ((n - splitN n : Nat) : Int) = (n : Int) - (splitN n : Int) := by omega
          rw [hc1, hc2] at hih
          clear he hlast hin hc' ih hr hy hl hsp hn hc1 hc2
          generalize splitN n = s at *
          go_enter Try.func52, Try.ntmps52
          go_wp2_with fail
          refine (hspl _).mono ?_
          rintro e w' ⟨rfl, rfl⟩
          go_wp2_with fail
          refine hih.mono ?_
          rintro e w' ⟨rfl, rfl⟩
          go_wp2_with fail
          refine (hp _).mono ?_
          rintro e w' ⟨rfl, rfl⟩
          go_wp2_with fail
          go_ret2
          exact ⟨rfl, rfl⟩
/-- What Holds answers. -/
def holdsB (root : W) (s : List UInt8) (at_ n : Nat) (t : List W) : Bool := (climbF n (leafF s) at_ n t).2 && decide ((climbF n (leafF s) at_ n t).1 = root)
set_option maxRecDepth 100000 in
theorem holds_any (root : W) (s : ByteArray) (hs : s.size ≤ 9223372036854775807) (at_ n : Nat) (A : Option Addr) (k c : Nat) (t : List W) (w : World) (h1 : 1 ≤ n) (h256 : n ≤ 256) (hat : at_ < n) (hkc : k ≤ c) (hc : c ≤ 9223372036854775807) (hr : Rd w 1 A k (cellsW t)) :
    Calls Try.prog 22 #[.int .u64 (U root), .string s, .int .i64 (at_ : Int), .int .i64 (n : Int), .slice A k c] w fun e w' => e = .returned (.tuple #[.bool (holdsB root s.data.toList at_ n t), .int .i64 0]) ∧ ∃ q, w' = w.drewN q := by
  have hleaf := leaf_any s hs
  have hcl := fun q => climb_any n (leafF s.data.toList) at_ n A k c t (w.drewN q) (Nat.le_refl _) h1 h256 hat hkc hc (hr.drewN q)
  unfold holdsB
  obtain ⟨y, ok, hy⟩ : ∃ y ok, climbF n (leafF s.data.toList) at_ n t = (y, ok) := ⟨_, _, rfl⟩
  rw [hy] at hcl ⊢
  generalize leafF s.data.toList = lf at *
  have he : (U y == U root) = decide (y = root) := by
    by_cases h : y = root
    · subst h; simp
    · rw [decide_eq_false h, beq_eq_false_iff_ne]; exact fun e => h (U_inj e)
  clear hr hy
  simp only []
  rw [← he]
  have HE := Lib.hid he
  clear he
  cases ok with
  | false =>
    rw [Bool.false_and]
    go_enter Try.func22, Try.ntmps22
    go_wp2_with fail
    refine (hleaf _).mono ?_
    rintro e w' ⟨rfl, q, rfl⟩
    go_wp2_with fail
    refine (hcl q).mono ?_
    rintro e w' ⟨rfl, rfl⟩
    go_wp2_with fail
    go_ret2
    exact ⟨rfl, q, rfl⟩
  | true =>
    rw [Bool.true_and]
    go_enter Try.func22, Try.ntmps22
    go_wp2_with fail
    refine (hleaf _).mono ?_
    rintro e w' ⟨rfl, q, rfl⟩
    go_wp2_with fail
    refine (hcl q).mono ?_
    rintro e w' ⟨rfl, rfl⟩
    go_wp2_with fail
    go_ret2
    exact ⟨rfl, q, rfl⟩
end Go.Proofs.Ytmooknaljkeaaaa.Tree
