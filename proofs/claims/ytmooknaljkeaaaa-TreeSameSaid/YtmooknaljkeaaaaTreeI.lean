/-
  TreeHolds: each text of a list is shown to be in it, at its place, by its trail; a trail is no longer than how often the list can be halved.
-/
import Derived.Test.YtmooknaljkeaaaaTreeH
import Derived.Test.YtmooknaljkeaaaaTreeGrows
set_option linter.unusedVariables false
namespace Go.Proofs.Ytmooknaljkeaaaa.Tree
open Go.RowKit Go.Proofs.Ytmooknaljkeaaaa Go.Proofs.Ytmooknaljkeaaaa.Bv Go.Proofs.Ytmooknaljkeaaaa.Mark

theorem held1 {w0 W W' : World} {a : Addr} {v : Value} (h : Below w0.heap.size w0 W ∧ W.cell? a = some v) (hb : Below W.heap.size W W') : Below w0.heap.size w0 W' ∧ W'.cell? a = some v :=
  ⟨h.1.trans (hb.mono h.1.size), cell_later hb h.2⟩
theorem heldq {w0 W : World} {a : Addr} {v : Value} (h : Below w0.heap.size w0 W ∧ W.cell? a = some v) (q : Nat) : Below w0.heap.size w0 (W.drewN q) ∧ (W.drewN q).cell? a = some v := ⟨below_drewN h.1 q, h.2⟩
theorem heldg {w0 W W' : World} {a : Addr} {v : Value} (h : Below w0.heap.size w0 W ∧ W.cell? a = some v) {u : Value} {e : TypeId} {size n : Nat} {G : Nat → Value → Prop} {xs : List Value}
    (ho : Own W w0.heap.size e size G u n xs) (hg : W.grownBy W' u.ownBlock) (ha : a.block < w0.heap.size) (h0 : w0.cell? a = some v) : Below w0.heap.size w0 W' ∧ W'.cell? a = some v := by
  have hb := h.1.grown hg h.1.size (fun k hk => (ho.row.lt k hk).1)
  exact ⟨hb, by rw [hb.cell ha]; exact h0⟩
theorem own_held {w0 W wC : World} {a : Addr} {v u : Value} {e : TypeId} {size n : Nat} {G : Nat → Value → Prop} {xs : List Value} (h : Below w0.heap.size w0 W ∧ W.cell? a = some v) (ho : Own wC W.heap.size e size G u n xs) : Own wC w0.heap.size e size G u n xs := ho.mono h.1.size
theorem held_size {w0 W : World} {a : Addr} {v : Value} (h : Below w0.heap.size w0 W ∧ W.cell? a = some v) : w0.heap.size ≤ W.heap.size := h.1.size
theorem rd_lit (W : World) (u : Value) (t : TypeId) : Rd (W.alloc (.cells #[u] t)) 1 (some ⟨W.heap.size, 0, none⟩) 1 [u] :=
  ⟨rfl, fun _ => ⟨W.heap.size, 0, rfl, fun q u' hq => by
    match q, hq with
    | 0, hq => simp at hq; subst hq; simp⟩⟩
theorem zero_cells : ∀ u ∈ [Value.int .u64 0], u.oneCell' = true := by intro u hu; simp at hu; subst hu; rfl
theorem zero_gw : ∀ j u, [Value.int .u64 0][j]? = some u → GW (j % 1) u := fun q u hq => by match q, hq with | 0, hq => exact ⟨_, (Option.some.inj hq).symm⟩
theorem below_alloc (W : World) (o : Obj) : Below W.heap.size W (W.alloc o) := (Below.refl _ _).alloc (Nat.le_refl _) _
set_option maxRecDepth 100000 in
set_option maxHeartbeats 4000000 in
theorem treeHolds_any (a0 : Option Addr) (len0 cap0 : Nat) (a1 : Int) (w : World) (h0 : (.slice .str 16 : Sh).Ok w [.slice a0 len0 cap0]) (w1 : (Lit.int .i64 a1).wf = true) :
    Calls Try.prog 5 #[.slice a0 len0 cap0, .int .i64 a1] w fun e w' => e = .returned (.bool true) ∧ Below w.heap.size w w' := by
  obtain ⟨hn0, hcap, hz0, l, hl, hs, hr⟩ := strs_open h0
  clear h0 w1
  by_cases h256 : 256 < len0
  · go_enter Try.func5, Try.ntmps5
    go_wp2_with fail
    refine (rootf_long a0 len0 cap0 _ h256).mono ?_
    rintro e w' ⟨rfl, rfl⟩
    go_wp2_with fail
    refine (trailf_long a0 len0 cap0 a1 _ h256).mono ?_
    rintro e w' ⟨rfl, rfl⟩
    go_wp2_with fail
    refine (lives_any _).mono ?_
    rintro e w2 ⟨rfl, hb2⟩
    go_wp2_with fail
    refine (lives_any _).mono ?_
    rintro e w3 ⟨rfl, hb3⟩
    go_wp2_with fail
    go_ret
    exact ⟨rfl, hb2.trans (hb3.mono hb2.size)⟩
  · by_cases hat : a1 < 0 ∨ (len0 : Int) ≤ a1
    · have hroot := rootf_any a0 len0 cap0 l w (by omega) hn0 (by omega) hs hr
      generalize rootL (lists l) = rt at *
      go_enter Try.func5, Try.ntmps5
      go_wp2_with fail
      refine hroot.mono ?_
      rintro e w' ⟨rfl, q, rfl⟩
      go_wp2_with fail
      refine (trailf_none a0 len0 cap0 a1 _ (by omega) hat).mono ?_
      rintro e w' ⟨rfl, rfl⟩
      clear hat
      go_wp2_with fail
      refine (lives_any _).mono ?_
      rintro e w2 ⟨rfl, hb2⟩
      go_wp2_with fail
      refine (lives_any _).mono ?_
      rintro e w3 ⟨rfl, hb3⟩
      go_wp2_with fail
      go_ret
      exact ⟨rfl, (below_drewN (Below.refl _ _) q).trans (hb2.trans (hb3.mono hb2.size))⟩
    · obtain ⟨at_, rfl⟩ := Int.eq_ofNat_of_zero_le (show 0 ≤ a1 by omega)
      have hat : at_ < len0 := by omega
      obtain ⟨b, o, rfl, hcell⟩ := hr.2 (by omega)
      have hroot := rootf_any (some ⟨b, o, none⟩) len0 cap0 l w (by omega) hn0 (by omega) hs hr
      have htr := fun q => trailf_any (some ⟨b, o, none⟩) len0 cap0 at_ l (w.drewN q) (by omega) hat hn0 (by omega) hs (hr.drewN q)
      have hll : (lists l).length = len0 := by rw [lists_len, hl]
      obtain ⟨s, hsl⟩ : ∃ s, l[at_]? = some s := ⟨_, List.getElem?_eq_getElem (by omega)⟩
      have hx := hcell at_ (.string s) (by unfold cellsS; rw [List.getElem?_map, hsl]; rfl)
      have hxs : s.size ≤ 9223372036854775807 := hs _ (List.mem_of_getElem? hsl)
      have hget : (lists l).getD at_ [] = s.data.toList := by
        unfold lists
        rw [List.getD_eq_getElem?_getD, List.getElem?_map, hsl]
        rfl
      have hy := holds_trail (lists l) at_ (by omega)
      have hno := holds_more (rootL (lists l)) ((lists l).getD at_ []) (lists l) at_ 0#64 (by omega)
      have hdep : ∀ k, len0 ≤ 2 ^ k → (trailF len0 (lists l) at_).length ≤ k := by
        intro k hk
        rw [← hll, trail_len _ _ _ (Nat.le_refl _) (by omega) (by omega), hll]
        exact depth_le _ _ _ _ (Nat.le_refl _) (by omega) hat hk
      have hdl := trailF_len len0 (lists l) at_
      rw [hll, hget] at hy hno
      have hA := holds_any (rootL (lists l)) s hxs at_ len0
      have hA2 := fun A k c t W => hA A k c t W (by omega) (by omega) hat
      clear hA hget hll hcell hsl
      generalize trailF len0 (lists l) at_ = t at *
      generalize rootL (lists l) = rt at *
      have hyes : ∀ (A : Option Addr) (c : Nat) (W : World), t.length ≤ c → c ≤ 9223372036854775807 → Rd W 1 A t.length (cellsW t) → Calls Try.prog 22 #[.int .u64 (U rt), .string s, .int .i64 (at_ : Int), .int .i64 (len0 : Int), .slice A t.length c] W fun e w' => e = .returned (.tuple #[.bool true, .int .i64 0]) ∧ ∃ q, w' = W.drewN q := by
        intro A c W h1 h2 h3
        have h := hA2 A t.length c t W h1 h2 h3
        rwa [hy] at h
      have hmore : ∀ (A : Option Addr) (c : Nat) (W : World), t.length + 1 ≤ c → c ≤ 9223372036854775807 → Rd W 1 A (t.length + 1) (cellsW t ++ [.int .u64 0]) → Calls Try.prog 22 #[.int .u64 (U rt), .string s, .int .i64 (at_ : Int), .int .i64 (len0 : Int), .slice A (t.length + 1) c] W fun e w' => e = .returned (.tuple #[.bool false, .int .i64 0]) ∧ ∃ q, w' = W.drewN q := by
        intro A c W h1 h2 h3
        have h := hA2 A (t.length + 1) c (t ++ [0#64]) W h1 h2 (by rw [cellsW_snoc]; exact h3)
        rwa [hno] at h
      clear hA2 hy hno
      have HD := Lib.hid hdep
      have hbl : b < w.heap.size := World.block_lt_of_cell? w _ hx
      have HBL := Lib.hid hbl
      clear hdep hr hs hl hz0 hbl
      have hlen256 : len0 ≤ 256 := by omega
      have hati : (at_ : Int) < (len0 : Int) := by omega
      have hati0 : (0 : Int) ≤ (at_ : Int) := by omega
      unfold TrailfPost at htr
      obtain ⟨i0, hi, hi0, hi1, hi2⟩ := info_parts infoU64
      go_enter Try.func5, Try.ntmps5
      go_wp2_with fail
      refine hroot.mono ?_
      rintro e w1 ⟨rfl, q, rfl⟩
      clear hroot
      go_wp2_with fail
      refine (htr q).mono ?_
      rintro e w2 ⟨Ap, cp, rfl, hop, hb2⟩
      clear htr
      have HOP := Lib.hid hop
      have hb2 : Below w.heap.size w w2 := (below_drewN (Below.refl _ _) q).trans hb2
      have hcp : t.length ≤ cp ∧ cp ≤ 9223372036854775807 ∧ (Ap = none → t.length = 0) := by
        obtain ⟨A', c', e, h1, h2, h3, h4, h5⟩ := hop.shape
        simp only [Value.slice.injEq] at e
        obtain ⟨rfl, _, rfl⟩ := e
        unfold maxLen at h2
        refine ⟨h1, h2, fun h => ?_⟩
        have := h5 h
        simp only [Value.slice.injEq] at this
        exact this.2.1
      clear hop
      obtain ⟨hcp1, hcp2, hcp3⟩ := hcp
      have HC3 := Lib.hid hcp3
      clear hcp3
      go_wp2_with fail
      refine (lives_any _).mono ?_
      rintro e w3 ⟨rfl, hb3⟩
      have HOP := Lib.hid (HOP.out.later hb3)
      have hb3 := hb2.trans (hb3.mono hb2.size)
      have hx3 := cell_later hb3 hx
      clear hb2 hx
      go_wp2_with fail
      refine (hyes Ap cp _ hcp1 hcp2 (HOP.out.rd rfl)).mono ?_
      rintro e w4 ⟨rfl, q4, rfl⟩
      clear hyes
      obtain ⟨w5, HW5⟩ : ∃ w5, Hid (w3.drewN q4 = w5) := ⟨_, Lib.hid rfl⟩
      have hb5 : Below w.heap.size w w5 := by rw [← HW5.out]; exact below_drewN hb3 q4
      have hx5 : w5.cell? ⟨b, o + at_, none⟩ = some (.string s) := by rw [← HW5.out]; exact hx3
      have HOP : Hid (Own w5 (w.drewN q).heap.size 30 1 GW (.slice Ap t.length cp) t.length (cellsW t)) := by rw [← HW5.out]; exact HOP.out.drewN q4
      have HBL5 : Hid (b < w5.heap.size) := by show _ < _; have := hb5.size; have := HBL.out; omega
      rw [HW5.out]
      clear hb3 hx3
      go_wp2_with fail
      have hcl := fun W (hW : Rd W 1 Ap t.length (cellsW t)) => clone_w (A := Ap) (n := t.length) (c := cp) (l := t) (w := W) (by omega) HC3.out hW
      unfold CloneW at hcl
      go_region_held3 (fun wx => Below w5.heap.size w5 wx ∧ wx.cell? ⟨b, o + at_, none⟩ = some (.string s))
        (first | exact ⟨(Below.refl _ _).drew, hx5⟩ | assumption | exact held1 (by assumption) (below_alloc _ _) | exact heldq (by assumption) _)
        (first
          | (refine step_call rfl 25 _ Try.func25 (by kernel_rfl) (by kernel_rfl) _ _ rfl #[.slice Ap t.length cp] (by simp [Act.eval]) ?_
             refine (hcl _ ((HOP.out.rd rfl).later (And.left (by assumption)))).mono ?_
             rintro e wC ⟨AC, cC, rfl, hoC, hbC⟩
             have hoC := own_held (w0 := w5) (by assumption) hoC
             have hHC := held1 (w0 := w5) (by assumption) hbC
             refine ⟨_, rfl, ?_⟩)
          | (refine step_append_all _ rfl _ _ _ rfl w5.heap.size 30 i0 (.int .u64 0) 1 8 Try.underlying23 hi hi0 hi1 hi2 rfl (by decide) GW gw_zero (.slice AC t.length cC) t.length (cellsW t) rfl (hoC.later (below_alloc _ _)) (some ⟨wC.heap.size, 0, none⟩) 1 1 [.int .u64 0] rfl (rd_lit _ _ _) zero_cells zero_gw (by unfold maxLen; omega) (by omega) ?_ ?_
             · exact held_size (a := ⟨b, o + at_, none⟩) (v := .string s) (by assumption)
             intro v7 w7 hown7 hgrow7 _ hat7
             have hH7 := heldg (w0 := w5) (W := wC.alloc (.cells #[.int .u64 0] 30)) (a := ⟨b, o + at_, none⟩) (v := .string s) (held1 hHC (below_alloc _ _)) (hoC.later (below_alloc _ _)) hgrow7 HBL5.out hx5
             have HO7 := Lib.hid hown7
             obtain ⟨A7, c7, rfl, hle7, hmx7, hrd7, _⟩ := hown7.shape
             unfold maxLen at hmx7
             have HR7 := Lib.hid hrd7
             clear hown7 hrd7 hgrow7 hat7)
          | (refine step_append_all _ rfl _ _ _ rfl w5.heap.size 30 i0 (.int .u64 0) 1 8 Try.underlying23 hi hi0 hi1 hi2 rfl (by decide) GW gw_zero (.slice AC t.length cC) t.length (cellsW t) rfl (hoC) (some ⟨w5.heap.size, 0, none⟩) 1 1 [.int .u64 0] rfl ((rd_lit w5.drew (.int .u64 0) 30).later hbC) zero_cells zero_gw (by unfold maxLen; omega) (by omega) ?_ ?_
             · exact held_size (a := ⟨b, o + at_, none⟩) (v := .string s) (by assumption)
             intro v7 w7 hown7 hgrow7 _ hat7
             have hH7 := heldg (w0 := w5) (a := ⟨b, o + at_, none⟩) (v := .string s) hHC hoC hgrow7 HBL5.out hx5
             have HO7 := Lib.hid hown7
             obtain ⟨A7, c7, rfl, hle7, hmx7, hrd7, _⟩ := hown7.shape
             unfold maxLen at hmx7
             have HR7 := Lib.hid hrd7
             clear hown7 hrd7 hgrow7 hat7)
          | (refine step_call rfl 22 _ Try.func22 (by kernel_rfl) (by kernel_rfl) _ _ rfl #[.int .u64 (U rt), .string s, .int .i64 (at_ : Int), .int .i64 (len0 : Int), .slice A7 (t.length + 1) c7] (by simp [Act.eval]) ?_
             refine (hmore A7 c7 _ hle7 hmx7 HR7.out).mono ?_
             rintro e w8 ⟨rfl, q8, rfl⟩
             refine ⟨_, rfl, ?_⟩))
      all_goals
        have hb9 : Below w.heap.size w (w7.drewN q8) := hb5.trans (Below.mono (below_drewN (And.left hH7) q8) hb5.size)
        clear hH7 HO7 HR7 hmore hcl
        go_wp2_with fail
        go_loop [13, 14] (fun lg nn => ∃ j : Nat, j ≤ 9 ∧ lg = .int .i64 (j : Int) ∧ nn = .int .i64 ((2 ^ j : Nat) : Int) ∧ Hid (j = 0 ∨ 2 ^ j < 2 * len0)) (fun _ nn => 512 - (intOf nn).toNat)
        case atStart => exact ⟨0, by decide, rfl, rfl, Or.inl rfl⟩
        case round =>
          obtain ⟨j, hj9, rfl, rfl, HJ⟩ := hrel
          have hpp : 2 ^ (j + 1) = 2 ^ j * 2 := Nat.pow_succ 2 j
          have hj1 : j + 1 ≤ 9 ∨ 9 ≤ j := by omega
          by_cases hlt : 2 ^ j < len0
          · have hj8 : j ≤ 8 := by
              rcases hj1 with h | h
              · omega
              · have := Nat.pow_le_pow_right (show 0 < 2 by decide) h
                omega
            have HP := Lib.hid hpp
            clear hpp hj1
            have hp1 : 0 < 2 ^ j := Nat.two_pow_pos j
            generalize hP : 2 ^ j = P at *
            have HPE := Lib.hid hP
            clear hP
            go_wp2_with fail
            go_round
            case rel => exact ⟨j + 1, by omega, by go_num, by rw [HP.out]; go_num, Or.inr (by rw [HP.out]; omega)⟩
            case measure => simp [intOf]; omega
          · have hd := HD.out j (by omega)
            clear hpp hj1
            generalize 2 ^ j = P at *
            go_wp2_with fail
            go_ret
            exact ⟨rfl, hb9⟩
end Go.Proofs.Ytmooknaljkeaaaa.Tree
