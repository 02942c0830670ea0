/-
  Numbers of as many bytes as they need: one behind the other; plain mathematics.
-/
import Derived.Test.YtfabhinehfhndaaPackM
import Derived.Test.YtfabhinehfhndaaInts
set_option linter.unusedVariables false
set_option linter.unusedSimpArgs false
namespace Go.Proofs.Ytfabhinehfhndaa.Pack
open Go.Proofs.Ytfabhinehfhndaa Go.Proofs.Ytfabhinehfhndaa.Bv

theorem putF_inj (k x y : Nat) (u v : List UInt8) (hx : x < 128 ^ (k + 1)) (hy : y < 128 ^ (k + 1)) (h : putF k x ++ u = putF k y ++ v) : x = y ∧ u = v := by
  induction k generalizing x y with
  | zero =>
    simp only [putF, List.singleton_append, List.cons.injEq] at h
    have := congrArg UInt8.toNat h.1
    simp only [UInt8.toNat_ofNat'] at this
    simp at hx hy
    exact ⟨by omega, h.2⟩
  | succ k ih =>
    by_cases h1 : x < 128
    · by_cases h2 : y < 128
      · rw [putF_lt h1, putF_lt h2] at h
        simp only [List.singleton_append, List.cons.injEq] at h
        have := congrArg UInt8.toNat h.1
        simp only [UInt8.toNat_ofNat'] at this
        exact ⟨by omega, h.2⟩
      · rw [putF_lt h1, putF_ge h2] at h
        simp only [List.cons_append, List.cons.injEq] at h
        have := congrArg UInt8.toNat h.1
        simp only [UInt8.toNat_ofNat'] at this
        omega
    · by_cases h2 : y < 128
      · rw [putF_ge h1, putF_lt h2] at h
        simp only [List.cons_append, List.cons.injEq] at h
        have := congrArg UInt8.toNat h.1
        simp only [UInt8.toNat_ofNat'] at this
        omega
      · rw [putF_ge h1, putF_ge h2] at h
        simp only [List.cons_append, List.cons.injEq] at h
        have e := congrArg UInt8.toNat h.1
        simp only [UInt8.toNat_ofNat'] at e
        obtain ⟨h3, h4⟩ := ih (x / 128) (y / 128) (pow_lt_div hx) (pow_lt_div hy) h.2
        exact ⟨by omega, h4⟩
theorem putL_inj {x y : Nat} {u v : List UInt8} (hx : x < 18446744073709551616) (hy : y < 18446744073709551616) (h : putL x ++ u = putL y ++ v) : x = y ∧ u = v := putF_inj 9 x y u v (lt_pow hx) (lt_pow hy) h
theorem get_ok {l : List UInt8} {n : Nat} {rest : List UInt8} (h : GetIs l n rest 0) : l = putL n ++ rest ∧ n < 18446744073709551616 := by
  rcases h with ⟨k, hk, hkl, _, _, ⟨h1, h2, h3, _⟩ | ⟨_, _, _, h⟩⟩ | ⟨_, _, _, _, h⟩ | ⟨_, _, _, _, h⟩
  · subst h2; subst h3
    exact ⟨by rw [h1, List.take_append_drop], Nat.mod_lt _ (by decide)⟩
  all_goals cases h
theorem first_low {n k : Nat} {r : List UInt8} (hn : n < 18446744073709551616) (hk : k < (putL n ++ r).length) (hh : ∀ i (h : i < (putL n ++ r).length), i < k → 128 ≤ ((putL n ++ r)[i]).toNat) (hl : ((putL n ++ r)[k]).toNat < 128) : k + 1 = (putL n).length := by
  have h1 := (putL_len n).2
  rcases Nat.lt_trichotomy (k + 1) (putL n).length with h | h | h
  · rw [List.getElem_append_left (by omega)] at hl
    have := putF_high 9 n k (lt_pow hn) h (by show k < (putL n).length; omega)
    have e : (putF 9 n)[k]'(by show k < (putL n).length; omega) = (putL n)[k]'(by omega) := rfl
    rw [e] at this
    omega
  · exact h
  · have h2 := hh ((putL n).length - 1) (by simp; omega) (by omega)
    rw [List.getElem_append_left (by omega)] at h2
    have := putF_last 9 n (lt_pow hn) ((putL n).length - 1) (by show _ < (putL n).length; omega) (by show _ = (putL n).length; omega)
    have e : (putF 9 n)[(putL n).length - 1]'(by show _ < (putL n).length; omega) = (putL n)[(putL n).length - 1]'(by omega) := rfl
    rw [e] at this
    omega
theorem get_put {n : Nat} {r : List UInt8} {m : Nat} {rest : List UInt8} {e : Int} (hn : n < 18446744073709551616) (h : GetIs (putL n ++ r) m rest e) : m = n ∧ rest = r ∧ e = 0 := by
  have hlen := putL_len n
  have hlow : ∃ i, ∃ hi : i < (putL n ++ r).length, i < 10 ∧ ((putL n ++ r)[i]).toNat < 128 := by
    refine ⟨(putL n).length - 1, by simp; omega, by omega, ?_⟩
    rw [List.getElem_append_left (by omega)]
    exact putF_last 9 n (lt_pow hn) ((putL n).length - 1) (by show _ < (putL n).length; omega) (by show _ = (putL n).length; omega)
  rcases h with ⟨k, hk, hkl, hh, hl, h⟩ | ⟨_, hall, _⟩ | ⟨_, hall, _⟩
  · have hk1 := first_low hn hkl hh (hl hkl)
    have ht : (putL n ++ r).take (k + 1) = putL n := by rw [hk1, List.take_left]
    have hv : val (putL n) % 18446744073709551616 = n := by rw [val_putL n hn, Nat.mod_eq_of_lt hn]
    rw [ht, hv] at h
    rcases h with ⟨_, h2, h3, h4⟩ | ⟨h1, _⟩
    · refine ⟨h2, ?_, h4⟩
      rw [h3, hk1, List.drop_left]
    · exact absurd rfl h1
  · obtain ⟨i, hi, _, hlow⟩ := hlow
    have := hall i hi
    omega
  · obtain ⟨i, hi, hi10, hlow⟩ := hlow
    have := hall i hi hi10
    omega
def unfoldN (n : Nat) : Int := if n % 2 = 0 then ((n / 2 : Nat) : Int) else -((n / 2 : Nat) : Int) - 1
theorem fold_unfold (n : Nat) : foldN (unfoldN n) = n := by
  unfold foldN unfoldN
  split <;> split <;> omega
theorem unfold_fold (x : Int) : unfoldN (foldN x) = x := by
  unfold foldN unfoldN
  split <;> split <;> omega
theorem foldN_lt (x : Int) (h0 : -9223372036854775808 ≤ x) (h1 : x ≤ 9223372036854775807) : foldN x < 18446744073709551616 := by
  unfold foldN
  split <;> omega
theorem unfoldN_bd (n : Nat) (h : n < 18446744073709551616) : -9223372036854775808 ≤ unfoldN n ∧ unfoldN n ≤ 9223372036854775807 := by
  unfold unfoldN
  split <;> omega
/-- The bytes of numbers, one behind the other. -/
def items (l : List Int) : List UInt8 := l.flatMap fun x => putL (foldN x)
def putAllL (l : List Int) : List UInt8 := putL l.length ++ items l
theorem items_cons (x : Int) (l : List Int) : items (x :: l) = putL (foldN x) ++ items l := rfl
theorem items_app (a b : List Int) : items (a ++ b) = items a ++ items b := by unfold items; rw [List.flatMap_append]
theorem items_snoc (a : List Int) (x : Int) : items (a ++ [x]) = items a ++ putL (foldN x) := by rw [items_app, items_cons]; simp [items]
theorem items_len (l : List Int) : (items l).length ≤ 10 * l.length := by
  induction l with
  | nil => simp [items]
  | cons x l ih => rw [items_cons]; have := (putL_len (foldN x)).1; simp; omega
theorem foldN_inj {x y : Int} (h : foldN x = foldN y) : x = y := by rw [← unfold_fold x, h, unfold_fold]
/-- The beginnings of two lists of numbers whose bytes are the same. -/
theorem items_inj : ∀ (a b : List Int) (s : List UInt8), I64 a → I64 b → a.length ≤ b.length → items a ++ s = items b → a = b.take a.length ∧ s = items (b.drop a.length)
  | [], b, s, _, _, _, h => ⟨by simp, by simpa [items] using h⟩
  | x :: a, [], s, _, _, hl, _ => by simp at hl
  | x :: a, y :: b, s, ha, hb, hl, h => by
    rw [items_cons, items_cons, List.append_assoc] at h
    have hx := ha x (by simp)
    have hy := hb y (by simp)
    obtain ⟨h1, h2⟩ := putL_inj (foldN_lt x hx.1 hx.2) (foldN_lt y hy.1 hy.2) h
    obtain ⟨h3, h4⟩ := items_inj a b s (fun z hz => ha z (by simp [hz])) (fun z hz => hb z (by simp [hz])) (by simpa using hl) h2
    rw [foldN_inj h1]
    exact ⟨by simp; exact h3, by simpa using h4⟩
/-- What GetAll answers. -/
def GotAll (s : List UInt8) (out : List Int) (e : Int) : Prop :=
  I64 out ∧ (e = 0 → s = putAllL out ∧ out.length ≤ 1000) ∧ (e ≠ 0 → out = [] ∧ ∀ l, I64 l → l.length ≤ 1000 → s ≠ putAllL l)
theorem gotAll_put {l out : List Int} {e : Int} (hl : I64 l) (h1 : l.length ≤ 1000) (h : GotAll (putAllL l) out e) : e = 0 ∧ out = l := by
  obtain ⟨ho, h2, h3⟩ := h
  by_cases he : e = 0
  · obtain ⟨h4, h5⟩ := h2 he
    unfold putAllL at h4
    obtain ⟨h6, h7⟩ := putL_inj (by omega) (by omega) h4
    obtain ⟨h8, _⟩ := items_inj l out [] hl ho (by omega) (by rw [List.append_nil]; exact h7)
    rw [h6, List.take_length] at h8
    exact ⟨he, h8.symm⟩
  · exact absurd rfl ((h3 he).2 l hl h1)
/-- GetAll, step by step: behind the count and some numbers, so much is left. -/
theorem bad_count {s : List UInt8} {n : Nat} {r : List UInt8} {e : Int} (h : GetIs s n r e) (he : e ≠ 0 ∨ 1000 < n) {k : Int} (hk : k ≠ 0) : GotAll s [] k := by
  refine ⟨fun x hx => (by cases hx), fun h => absurd h hk, fun _ => ⟨rfl, fun l hl h1 hs => ?_⟩⟩
  subst hs
  obtain ⟨h2, _, h3⟩ := get_put (by omega) h
  rcases he with he | he
  · exact he h3
  · omega
theorem bad_item {s : List UInt8} {n : Nat} {out : List Int} {r : List UInt8} {m : Nat} {r' : List UInt8} {e : Int} (hs : s = putL n ++ (items out ++ r)) (hn : n < 18446744073709551616) (ho : I64 out) (hlt : out.length < n) (h : GetIs r m r' e) (he : e ≠ 0) : GotAll s [] e := by
  refine ⟨fun x hx => (by cases hx), fun h => absurd h he, fun _ => ⟨rfl, fun l hl h1 hs2 => ?_⟩⟩
  rw [hs2] at hs
  unfold putAllL at hs
  obtain ⟨h2, h3⟩ := putL_inj (by omega) hn hs
  obtain ⟨h4, h5⟩ := items_inj out l r ho hl (by omega) h3.symm
  have h6 : l.drop out.length = l[out.length]'(by omega) :: l.drop (out.length + 1) := List.drop_eq_getElem_cons (by omega)
  rw [h6, items_cons] at h5
  subst h5
  have hx := hl (l[out.length]'(by omega)) (List.getElem_mem _)
  exact he (get_put (foldN_lt _ hx.1 hx.2) h).2.2
theorem bad_end {s : List UInt8} {n : Nat} {out : List Int} {r : List UInt8} (hs : s = putL n ++ (items out ++ r)) (hn : n < 18446744073709551616) (ho : I64 out) (hlt : out.length = n) (hr : r ≠ []) {k : Int} (hk : k ≠ 0) : GotAll s [] k := by
  refine ⟨fun x hx => (by cases hx), fun h => absurd h hk, fun _ => ⟨rfl, fun l hl h1 hs2 => ?_⟩⟩
  rw [hs2] at hs
  unfold putAllL at hs
  obtain ⟨h2, h3⟩ := putL_inj (by omega) hn hs
  obtain ⟨h4, h5⟩ := items_inj out l r ho hl (by omega) h3.symm
  rw [List.drop_eq_nil_of_le (by omega)] at h5
  exact hr h5
theorem good_end {s : List UInt8} {n : Nat} {out : List Int} (hs : s = putL n ++ (items out ++ [])) (ho : I64 out) (hlt : out.length = n) (hn : n ≤ 1000) : GotAll s out 0 :=
  ⟨ho, fun _ => ⟨by rw [hs, List.append_nil, ← hlt]; rfl, by omega⟩, fun h => absurd rfl h⟩
end Go.Proofs.Ytfabhinehfhndaa.Pack
