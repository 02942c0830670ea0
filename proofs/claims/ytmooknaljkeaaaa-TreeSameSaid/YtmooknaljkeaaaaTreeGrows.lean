/-
  TreeGrows: the marks of the first texts hang on these alone, whatever comes behind; and of all of them the root is made, from the last on.
-/
import Derived.Test.YtmooknaljkeaaaaTreeN
set_option linter.unusedVariables false
namespace Go.Proofs.Ytmooknaljkeaaaa.Tree
open Go.RowKit Go.Proofs.Ytmooknaljkeaaaa Go.Proofs.Ytmooknaljkeaaaa.Bv Go.Proofs.Ytmooknaljkeaaaa.Mark

theorem strs_open {w : World} {A : Option Addr} {n c : Nat} (h : (.slice .str 16 : Sh).Ok w [.slice A n c]) :
    n ≤ c ∧ c ≤ 8796093021952 ∧ (A = none → n = 0 ∧ c = 0) ∧ ∃ l : List ByteArray, l.length = n ∧ Short l ∧ Rd w 1 A n (cellsS l) := by
  rcases h with h | ⟨a, len, cap, h, hl, hm, hr, hi⟩
  · simp at h
    obtain ⟨rfl, rfl, rfl⟩ := h
    exact ⟨Nat.le_refl _, by decide, fun _ => ⟨rfl, rfl⟩, [], rfl, (fun x hx => by cases hx), Rd.zero _ _ _⟩
  · simp at h
    obtain ⟨rfl, rfl, rfl⟩ := h
    refine ⟨hl, by omega, fun h => (by cases h), ?_⟩
    have hi2 : ∀ i, i < n → ∃ x : ByteArray, w.cell? (a.add i) = some (.string x) ∧ x.size ≤ 9223372036854775807 := by
      intro i hic
      obtain ⟨es, hes, hc, x, rfl, h1, _⟩ := hi i (by omega)
      have := hc 0 _ rfl
      simp only [Sh.size, Nat.mul_one, Nat.add_zero] at this
      exact ⟨x, this, by unfold maxLen at h1; omega⟩
    obtain ⟨l, hll, hlx⟩ := list_of n _ hi2
    refine ⟨l, hll, fun x hx => ?_, by rw [cellsS_len, hll, Nat.mul_one], fun h0 => ?_⟩
    · obtain ⟨j, hj, rfl⟩ := List.mem_iff_getElem.1 hx
      exact (hlx j hj).2
    · obtain ⟨b, off, spot⟩ := a
      have hc := (hlx 0 (by omega)).1
      have hspot : spot = none := by simpa [Addr.add] using World.cell?_spot hc
      subst hspot
      refine ⟨b, off, rfl, fun j u hu => ?_⟩
      have hj : j < l.length := by have := (List.getElem?_eq_some_iff.1 hu).1; rwa [cellsS_len] at this
      rw [cellsS_get l j hj] at hu
      have := (hlx j hj).1
      rw [addAt] at this
      rw [this, ← hu]
theorem cellsS_app (a b : List ByteArray) : cellsS a ++ cellsS b = cellsS (a ++ b) := by unfold cellsS; simp
theorem lists_app (a b : List ByteArray) : lists (a ++ b) = lists a ++ lists b := by unfold lists; simp
set_option maxRecDepth 100000 in
set_option maxHeartbeats 4000000 in
theorem treeGrows_any (a0 : Option Addr) (len0 cap0 : Nat) (a1 : Option Addr) (len1 cap1 : Nat) (a2 : Int) (w : World) (h0 : (.slice .str 16 : Sh).Ok w [.slice a0 len0 cap0]) (h1 : (.slice .str 16 : Sh).Ok w [.slice a1 len1 cap1]) (w2 : (Lit.int .i64 a2).wf = true) (hb : (cap0 + 1) + (cap1 + 1) ≤ 1048576) :
    Calls Try.prog 3 #[.slice a0 len0 cap0, .slice a1 len1 cap1, .int .i64 a2] w fun e w' => e = .returned (.bool true) ∧ Below w.heap.size w w' := by
  obtain ⟨hn0, _, hz0, l, hl, hs, hr⟩ := strs_open h0
  obtain ⟨hn1, _, hz1, more, hl1, hs1, hr1⟩ := strs_open h1
  clear h0 h1 w2
  obtain ⟨i0, hi, hzz, hz11, hz2⟩ := info_parts infoS
  have hsapp : Short (l ++ more) := by
    intro s hx
    rcases List.mem_append.1 hx with h | h
    · exact hs s h
    · exact hs1 s h
  have hlapp : (l ++ more).length = len0 + len1 := by rw [List.length_append, hl, hl1]
  have HLA := Lib.hid hlapp
  have HL := Lib.hid hl
  have HZ : Hid (a0 = none → len0 = 0) := fun h => (hz0 h).1
  have HZC : Hid (a0 = none → cap0 = 0) := fun h => (hz0 h).2
  clear hlapp hl hl1 hz0 hz1
  by_cases hgood : len0 ≤ 256 ∧ 0 ≤ a2 ∧ a2 ≤ (len0 : Int) ∧ len0 + len1 ≤ 256
  · obtain ⟨g1, g2, g3, g4⟩ := hgood
    obtain ⟨m, rfl⟩ := Int.eq_ofNat_of_zero_le g2
    have hm : m ≤ len0 := by omega
    have hsame : growsF m 9 (lists (l ++ more)) = growsF m 9 (lists l) := by
      refine grows_first m 9 _ _ ?_
      have := HL.out
      have h9 := Nat.mod_le m (2 ^ 9)
      rw [lists_app, List.take_append_of_le_length (by rw [lists_len]; omega)]
    have hmod : m % 2 ^ 9 = m := Nat.mod_eq_of_lt (by omega)
    have hroot : 1 ≤ m → joinR (growsF m 9 (lists l)) = rootL (lists (l.take m)) := by
      intro h1
      have h := grows_root m 9 (lists l) (by rw [hmod]; exact h1) (by rw [hmod, lists_len, HL.out]; exact hm)
      rw [hmod] at h
      rw [h]; unfold lists; rw [List.map_take]
    have hzero : m = 0 → growsF m 9 (lists l) = [] := fun h => growsF_nil m 9 _ (by rw [hmod]; exact h)
    have hglen := growsF_len m 9 (lists l)
    have hfst := grows_any a0 len0 cap0 m l w g1 hm hn0 (by omega) hs hr
    unfold GrowsPost at hfst
    have HS := Lib.hid hsame
    have HR := Lib.hid hroot
    have HZ0 := Lib.hid hzero
    obtain ⟨gs, HGS⟩ : ∃ gs, Hid (growsF m 9 (lists l) = gs) := ⟨_, Lib.hid rfl⟩
    rw [HGS.out] at hfst hglen
    clear hsame hroot hzero hmod
    have hnbig : ¬ (256 : Int) < (len0 : Int) + (len1 : Int) := by omega
    have hm0 : (0 : Int) ≤ (m : Int) := by omega
    go_enter Try.func3, Try.ntmps3
    go_wp2_with fail
    refine hfst.mono ?_
    rintro e w1 ⟨A1, c1, rfl, hownA, hb1⟩
    have HOA := Lib.hid hownA
    clear hownA hfst
    go_wp2_with fail
    refine (clone_s (by omega) HZ.out (hr.later hb1)).mono ?_
    rintro e w2 ⟨A2, c2, rfl, hown2, hb2⟩
    have hbb := hb1.trans (hb2.mono hb1.size)
    have HO2 := Lib.hid hown2
    have HR1 := Lib.hid (hr1.later hbb)
    clear hown2
    go_wp2_with (at_builtin; refine wpList_append_all _ rfl _ _ 22 rfl w1.heap.size 9 i0 (.string ⟨#[]⟩) 1 16 Try.underlying22 hi hzz hz11 hz2 rfl (by decide) GS ?g1 _ len0 (cellsS l) rfl HO2.out a1 len1 cap1 (cellsS more) rfl HR1.out ?g2 ?g3 ?g4 ?g5 ?g6 ?_)
    case g1 => intro q u hq; match q, hq with | 0, hq => exact ⟨_, (Option.some.inj hq).symm⟩
    case g2 => intro u hu; unfold cellsS at hu; obtain ⟨x, _, rfl⟩ := List.mem_map.1 hu; rfl
    case g3 => intro q u hq; have hq := List.mem_of_getElem? hq; unfold cellsS at hq; obtain ⟨x, _, rfl⟩ := List.mem_map.1 hq; exact ⟨_, rfl⟩
    case g4 => unfold maxLen; omega
    case g5 => omega
    case g6 => exact hb2.size
    intro v3 w3 hown3 hgrow _ hat
    have hb3 := hbb.grown hgrow hbb.size (fun q hq => by have := (HO2.out.row.lt q hq).1; have := hb1.size; omega)
    have hb13 : Below w1.heap.size w1 w3 := hb2.grown hgrow hb2.size (fun q hq => (HO2.out.row.lt q hq).1)
    obtain ⟨A3, c3, rfl, hle3, hmax3, hrd3, _⟩ := hown3.shape
    rw [cellsS_app] at hrd3
    clear hown3 hgrow hat HO2 HR1 hbb hb2
    unfold maxLen at hmax3
    go_wp2_with fail
    have hsec := grows_any A3 (len0 + len1) c3 m (l ++ more) w3 g4 (by omega) hle3 (by omega) hsapp hrd3
    unfold GrowsPost at hsec
    rw [HS.out, HGS.out] at hsec
    refine hsec.mono ?_
    rintro e w4 ⟨A4, c4, rfl, hownB, hb4⟩
    have hownA := (HOA.out.later hb13).later hb4
    have hb4 := hb3.trans (hb4.mono hb3.size)
    have HOA := Lib.hid hownA
    have HOB := Lib.hid hownB
    clear hb3 hrd3 hsec hownA hownB
    go_wp2_with fail
    refine (lives_any _).mono ?_
    rintro e w5 ⟨rfl, hb5⟩
    have hownA := HOA.out.later hb5
    have hownB := HOB.out.later hb5
    have hb5 := hb4.trans (hb5.mono hb4.size)
    have heq := equalW_same (c := c1) (d := c4) (by omega) (hownA.rd rfl) (hownB.rd rfl)
    have HOA := Lib.hid hownA
    clear hb4 hownA hownB HOB
    go_wp2_with fail
    refine heq.mono ?_
    rintro e w6 ⟨rfl, q6, rfl⟩
    have hb6 := below_drewN hb5 q6
    clear heq
    by_cases hm1 : m = 0
    · have hgs : gs = [] := by rw [← HGS.out]; exact HZ0.out hm1
      subst hm1
      subst hgs
      have hroot := rootf_any a0 0 cap0 [] (w5.drewN q6) (by decide) (by omega) (by omega) (fun s h => by cases h) (Rd.zero _ _ _)
      rw [show U (rootL (lists [])) = 0 from rfl] at hroot
      have hz : (((0 : Nat) : Int) == 0) = true := rfl
      cases a0 with
      | none =>
        obtain rfl : cap0 = 0 := HZC.out rfl
        go_wp2_with fail
        refine hroot.mono ?_
        rintro e w7 ⟨rfl, q7, rfl⟩
        go_wp2_with fail
        go_ret
        exact ⟨rfl, below_drewN hb5 _⟩
      | some a =>
        go_wp2_with fail
        refine hroot.mono ?_
        rintro e w7 ⟨rfl, q7, rfl⟩
        go_wp2_with fail
        go_ret
        exact ⟨rfl, below_drewN hb5 _⟩
    · have hj := HR.out (by omega)
      rw [HGS.out] at hj
      have hgn : gs ≠ [] := by
        rw [← HGS.out]; exact growsF_some m 9 _ (by rw [Nat.mod_eq_of_lt (by omega)]; omega)
      have hgl : 1 ≤ gs.length := by
        cases gs with
        | nil => exact absurd rfl hgn
        | cons x r => simp
      obtain ⟨b, o, rfl, _⟩ := hr.2 (by omega)
      have hcut := (Rd.cut hr m hm).1
      have hroot := rootf_any (some ⟨b, o, none⟩) m cap0 (l.take m) (w5.drewN q6) (by omega) (by omega) (by omega) (fun s h => hs s (List.mem_of_mem_take h)) (hcut.later hb6)
      rw [← hj] at hroot
      obtain ⟨R, HRR⟩ : ∃ R, Hid (joinR gs = R) := ⟨_, Lib.hid rfl⟩
      rw [HRR.out] at hroot
      have hz : ((m : Int) == 0) = false := by rw [beq_eq_false_iff_ne]; omega
      obtain ⟨g, c1', hv⟩ : ∃ g c1', (Value.slice A1 gs.length c1) = .slice (some ⟨g, 0, none⟩) gs.length c1' := by
        rcases HOA.out.2 with ⟨_, h⟩ | ⟨g, cap, cur, h, _⟩
        · omega
        · exact ⟨g, cap, h⟩
      injection hv with hv1 _ hv2
      subst hv1; subst hv2
      have hown7 := HOA.out
      have hcell : ∀ j (h : j < gs.length), w5.cell? ⟨g, j, none⟩ = some (.int .u64 (U gs[j])) := fun j h => by rw [hown7.cell j (by omega), cellsW_get gs j h]
      have HCE := Lib.hid hcell
      obtain ⟨L, HLL⟩ : ∃ L, Hid (gs.length = L) := ⟨_, Lib.hid rfl⟩
      rw [HLL.out] at hgl hglen
      rw [HLL.out]
      have hlast := hcell (L - 1) (by have := HLL.out; omega)
      have hstart : joinR (gs.drop (L - 1)) = gs[L - 1]'(by have := HLL.out; omega) := by
        have h1 := HLL.out
        rw [List.drop_eq_getElem_cons (by omega), List.drop_eq_nil_of_le (by omega)]
        rfl
      rw [← hstart] at hlast
      have hi1 : ((L : Int) - 1).toNat = L - 1 := by omega
      clear hj hgn hcut hown7 hcell hstart
      go_wp2_with fail
      refine hroot.mono ?_
      rintro e w7 ⟨rfl, q7, rfl⟩
      clear hroot
      go_wp2_with fail
      go_loop [13, 14] (fun x i => ∃ j : Nat, j < L ∧ i = .int .i64 ((j : Int) - 1) ∧ x = .int .u64 (U (joinR (gs.drop j)))) (fun _ i => (intOf i + 1).toNat)
      case atStart => exact ⟨L - 1, by omega, by first | rfl | (congr 1; omega), rfl⟩
      case round =>
        obtain ⟨j, hjL, rfl, rfl⟩ := hrel
        clear hlast hi1
        by_cases hj0 : 1 ≤ j
        · have hc := HCE.out (j - 1) (by rw [HLL.out]; omega)
          have hstep : joinR (gs.drop (j - 1)) = pairF (gs[j - 1]'(by rw [HLL.out]; omega)) (joinR (gs.drop j)) := by
            rw [List.drop_eq_getElem_cons (by rw [HLL.out]; omega), show j - 1 + 1 = j from by omega]
            refine joinR_two _ _ ?_
            intro h
            have := congrArg List.length h
            have h1 := HLL.out
            rw [List.length_drop] at this
            simp at this
            omega
          have hp := pair_any (gs[j - 1]'(by rw [HLL.out]; omega)) (joinR (gs.drop j))
          rw [← hstep] at hp
          have ht : ((j : Int) - 1).toNat = j - 1 := by omega
          have hge : (0 : Int) ≤ (j : Int) - 1 := by omega
          have hlt : (j : Int) - 1 < (L : Int) := by omega
          obtain ⟨y, HY⟩ : ∃ y, Hid (joinR (gs.drop (j - 1)) = y) := ⟨_, Lib.hid rfl⟩
          rw [HY.out] at hp
          clear hstep
          generalize gs[j - 1]'(by rw [HLL.out]; omega) = z at *
          generalize joinR (gs.drop j) = x at *
          go_wp2_with fail
          refine (hp _).mono ?_
          rintro e w' ⟨rfl, rfl⟩
          go_wp2_with fail
          go_round
          case rel => exact ⟨j - 1, by omega, by first | rfl | (congr 1; omega), by rw [HY.out]⟩
          case measure => simp [intOf]; omega
        · obtain rfl : j = 0 := by omega
          rw [List.drop_zero, HRR.out]
          have hneg : ((0 : Nat) : Int) - 1 = -1 := rfl
          rw [hneg]
          go_wp2_with fail
          go_ret
          exact ⟨rfl, below_drewN hb5 _⟩
  · by_cases hfirst : len0 ≤ 256 ∧ 0 ≤ a2 ∧ a2 ≤ (len0 : Int)
    · obtain ⟨g1, g2, g3⟩ := hfirst
      have hbig : (256 : Int) < (len0 : Int) + (len1 : Int) := by omega
      obtain ⟨m, rfl⟩ := Int.eq_ofNat_of_zero_le g2
      go_enter Try.func3, Try.ntmps3
      go_wp2_with fail
      refine (grows_any a0 len0 cap0 m l w g1 (by omega) hn0 (by omega) hs hr).mono ?_
      rintro e w1 ⟨A1, c1, rfl, _, hb1⟩
      generalize (growsF m 9 (lists l)).length = n1 at *
      go_wp2_with fail
      refine (clone_s (by omega) HZ.out (hr.later hb1)).mono ?_
      rintro e w2 ⟨A2, c2, rfl, hown2, hb2⟩
      have hbb := hb1.trans (hb2.mono hb1.size)
      have HO2 := Lib.hid hown2
      have HR1 := Lib.hid (hr1.later hbb)
      clear hown2
      go_wp2_with (at_builtin; refine wpList_append_all _ rfl _ _ 22 rfl w1.heap.size 9 i0 (.string ⟨#[]⟩) 1 16 Try.underlying22 hi hzz hz11 hz2 rfl (by decide) GS ?g1 _ len0 (cellsS l) rfl HO2.out a1 len1 cap1 (cellsS more) rfl HR1.out ?g2 ?g3 ?g4 ?g5 ?g6 ?_)
      case g1 => intro q u hq; match q, hq with | 0, hq => exact ⟨_, (Option.some.inj hq).symm⟩
      case g2 => intro u hu; unfold cellsS at hu; obtain ⟨x, _, rfl⟩ := List.mem_map.1 hu; rfl
      case g3 => intro q u hq; have hq := List.mem_of_getElem? hq; unfold cellsS at hq; obtain ⟨x, _, rfl⟩ := List.mem_map.1 hq; exact ⟨_, rfl⟩
      case g4 => unfold maxLen; omega
      case g5 => omega
      case g6 => exact hb2.size
      intro v3 w3 hown3 hgrow _ hat
      have hb3 := hbb.grown hgrow hbb.size (fun q hq => by have := (HO2.out.row.lt q hq).1; have := hb1.size; omega)
      have hb13 : Below w1.heap.size w1 w3 := hb2.grown hgrow hb2.size (fun q hq => (HO2.out.row.lt q hq).1)
      obtain ⟨A3, c3, rfl, hle3, hmax3, hrd3, _⟩ := hown3.shape
      rw [cellsS_app] at hrd3
      clear hown3 hgrow hat HO2 HR1 hbb hb2
      unfold maxLen at hmax3
      go_wp2_with fail
      refine (grows_weak A3 (len0 + len1) c3 (m : Int) (l ++ more) w3 hle3 (by omega) hsapp hrd3).mono ?_
      rintro e w4 ⟨A4, n4, c4, k4, rfl, hb4⟩
      have hb4 := hb3.trans (hb4.mono hb3.size)
      clear hb3 hrd3
      go_wp2_with fail
      refine (lives_any _).mono ?_
      rintro e w5 ⟨rfl, hb5⟩
      have hb5 := hb4.trans (hb5.mono hb4.size)
      go_wp2_with fail
      refine (lives_any _).mono ?_
      rintro e w6 ⟨rfl, hb6⟩
      have hb6 := hb5.trans (hb6.mono hb5.size)
      go_wp2_with fail
      go_ret
      exact ⟨rfl, hb6⟩
    · have hf : ∃ k : Int, k ≠ 0 ∧ Calls Try.prog 15 #[.slice a0 len0 cap0, .int .i64 a2] w fun e w' => e = .returned (.tuple #[.slice none 0 0, .int .i64 k]) ∧ w = w' := by
        by_cases h256 : 256 < len0
        · exact ⟨2, by decide, grows_long a0 len0 cap0 a2 w h256⟩
        · exact ⟨1, by decide, grows_arg a0 len0 cap0 a2 w (by omega) (by omega)⟩
      obtain ⟨k, hk, hfst⟩ := hf
      have hk2 : (k != 0) = true := by rw [bne_iff_ne]; exact hk
      have hb1 := Below.refl w.heap.size w
      clear hk hfirst hgood
      go_enter Try.func3, Try.ntmps3
      go_wp2_with fail
      refine hfst.mono ?_
      rintro e w1 ⟨rfl, rfl⟩
      go_wp2_with fail
      refine (clone_s (by omega) HZ.out (hr.later hb1)).mono ?_
      rintro e w2 ⟨A2, c2, rfl, hown2, hb2⟩
      have hbb := hb1.trans (hb2.mono hb1.size)
      have HO2 := Lib.hid hown2
      have HR1 := Lib.hid (hr1.later hbb)
      clear hown2
      go_wp2_with (at_builtin; refine wpList_append_all _ rfl _ _ 22 rfl w.heap.size 9 i0 (.string ⟨#[]⟩) 1 16 Try.underlying22 hi hzz hz11 hz2 rfl (by decide) GS ?g1 _ len0 (cellsS l) rfl HO2.out a1 len1 cap1 (cellsS more) rfl HR1.out ?g2 ?g3 ?g4 ?g5 ?g6 ?_)
      case g1 => intro q u hq; match q, hq with | 0, hq => exact ⟨_, (Option.some.inj hq).symm⟩
      case g2 => intro u hu; unfold cellsS at hu; obtain ⟨x, _, rfl⟩ := List.mem_map.1 hu; rfl
      case g3 => intro q u hq; have hq := List.mem_of_getElem? hq; unfold cellsS at hq; obtain ⟨x, _, rfl⟩ := List.mem_map.1 hq; exact ⟨_, rfl⟩
      case g4 => unfold maxLen; omega
      case g5 => omega
      case g6 => exact hb2.size
      intro v3 w3 hown3 hgrow _ hat
      have hb3 := hbb.grown hgrow hbb.size (fun q hq => by have := (HO2.out.row.lt q hq).1; have := hb1.size; omega)
      have hb13 : Below w.heap.size w w3 := hb2.grown hgrow hb2.size (fun q hq => (HO2.out.row.lt q hq).1)
      obtain ⟨A3, c3, rfl, hle3, hmax3, hrd3, _⟩ := hown3.shape
      rw [cellsS_app] at hrd3
      clear hown3 hgrow hat HO2 HR1 hbb hb2
      unfold maxLen at hmax3
      go_wp2_with fail
      refine (grows_weak A3 (len0 + len1) c3 a2 (l ++ more) w3 hle3 (by omega) hsapp hrd3).mono ?_
      rintro e w4 ⟨A4, n4, c4, k4, rfl, hb4⟩
      have hb4 := hb3.trans (hb4.mono hb3.size)
      clear hb3 hrd3
      go_wp2_with fail
      refine (lives_any _).mono ?_
      rintro e w5 ⟨rfl, hb5⟩
      have hb5 := hb4.trans (hb5.mono hb4.size)
      go_wp2_with fail
      refine (lives_any _).mono ?_
      rintro e w6 ⟨rfl, hb6⟩
      have hb6 := hb5.trans (hb6.mono hb5.size)
      go_wp2_with fail
      go_ret
      exact ⟨rfl, hb6⟩
end Go.Proofs.Ytmooknaljkeaaaa.Tree
