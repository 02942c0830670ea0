/-
  mustkeep.packLives holds.
-/
import Derived.Test.YtclobldldddjnaaPackW
set_option linter.unusedVariables false
namespace Go.Proofs.Ytclobldldddjnaa.Pack
open Go.RowKit Go.Proofs.Ytclobldldddjnaa.Bv

theorem known_is {n : Nat} {rest : List UInt8} {e : Int} (h : GetIs [172, 2, 120] n rest e) : n = 300 ∧ rest = [120] ∧ e = 0 := by
  rcases h with ⟨k, h1, h2, h3, h4, h5⟩ | ⟨h1, h2, _⟩ | ⟨h1, _⟩
  · have hk : k = 1 := by
      have h4' := h4 h2
      match k, h2, h4' with
      | 0, _, h4' => exact absurd (show (172 : UInt8).toNat < 128 from h4') (by decide)
      | 1, _, _ => rfl
      | 2, _, _ => exact absurd (h3 1 (by decide) (by decide)) (by decide)
    subst hk
    have hv : val ([172, 2, 120].take (1 + 1)) % 18446744073709551616 = 300 := by decide +kernel
    rw [hv] at h5
    have hp : putL 300 = [172, 2, 120].take (1 + 1) := by decide +kernel
    rcases h5 with ⟨_, h6, h7, h8⟩ | ⟨h6, _⟩
    · exact ⟨h6, h7, h8⟩
    · exact absurd hp h6
  · exact absurd (h2 1 (by decide)) (by decide)
  · exact absurd h1 (by decide)

theorem get_known (w : World) : Calls Try.prog 33 #[.string { data := #[172, 2, 120] }] w fun e w' => e = .returned (.tuple #[.int .u64 300, .string { data := #[120] }, .int .i64 0]) ∧ Below w.heap.size w w' :=
  (get_any { data := #[172, 2, 120] } (by decide) w).mono fun e w' ⟨n, rest, k, hg, he, hb⟩ => by
    obtain ⟨rfl, rfl, rfl⟩ := known_is hg
    exact ⟨he, hb⟩
theorem put_known (w : World) : Calls Try.prog 34 #[.int .u64 300] w fun e w' => e = .returned (.string { data := #[172, 2] }) ∧ Below w.heap.size w w' :=
  (put_any 300 (by decide) 300 rfl w).mono fun e w' ⟨he, hb⟩ => ⟨he.trans (ret_str (by rw [show putL 300 = [172, 2] by decide +kernel]; rfl)), hb⟩
theorem fold_known (w : World) : Calls Try.prog 37 #[.int .i64 (-1)] w fun e w' => e = .returned (.int .u64 1) ∧ w = w' :=
  (fold_any (-1) (by decide) (by decide) w).mono fun e w' ⟨he, hb⟩ => ⟨he.trans (ret_u64 (by decide +kernel)), hb⟩

theorem lives_any (w : World) :
    Calls Try.prog 35 #[] w fun e w' => e = .returned (.bool true) ∧ Below w.heap.size w w' := by
  go_enter Try.func35, Try.ntmps35
  go_wp2_with fail
  refine (get_known _).mono ?_
  rintro e w1 ⟨rfl, hb1⟩
  go_wp2_with fail
  refine (put_known _).mono ?_
  rintro e w2 ⟨rfl, hb2⟩
  go_wp2_with fail
  refine (fold_known _).mono ?_
  rintro e w3 ⟨rfl, rfl⟩
  go_wp2_with fail
  go_ret
  exact ⟨rfl, hb1.trans (hb2.mono hb1.size)⟩

/-- A number of which bytes are missing is short. -/
theorem open_u64 {x : Int} (h : (Lit.int .u64 x).wf = true) : ∃ n : Nat, x = n ∧ n < 18446744073709551616 := by
  simp [Lit.wf, IntKind.min, IntKind.max, IntKind.signed, IntKind.bits] at h
  exact ⟨x.toNat, by omega, by omega⟩
theorem open_i64 {x : Int} (h : (Lit.int .i64 x).wf = true) : -9223372036854775808 ≤ x ∧ x ≤ 9223372036854775807 := by
  simp [Lit.wf, IntKind.min, IntKind.max, IntKind.signed, IntKind.bits] at h
  omega
end Go.Proofs.Ytclobldldddjnaa.Pack
