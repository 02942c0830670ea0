/-
  TreeSame: what holds by some trail at a place, and isn't what stands there, would make two texts of one mark: going up by both trails, somewhere two pairs that aren't the same come to one.
-/
import Derived.Test.YtmooknaljkeaaaaTreeI
import Derived.Test.YtmooknaljkeaaaaTreeS
set_option linter.unusedVariables false
namespace Go.Proofs.Ytmooknaljkeaaaa.Tree
open Go.RowKit Go.Proofs.Ytmooknaljkeaaaa Go.Proofs.Ytmooknaljkeaaaa.Bv Go.Proofs.Ytmooknaljkeaaaa.Mark

theorem words_open {w : World} {A : Option Addr} {n c : Nat} (h : (.slice (.int .u64) 8 : Sh).Ok w [.slice A n c]) :
    n ≤ c ∧ c ≤ 17592186044096 ∧ ∃ l : List W, l.length = n ∧ Rd w 1 A n (cellsW l) := by
  rcases h with h | ⟨a, len, cap, h, hl, hm, hr, hi⟩
  · simp at h
    obtain ⟨rfl, rfl, rfl⟩ := h
    exact ⟨Nat.le_refl _, by decide, [], rfl, Rd.zero _ _ _⟩
  · simp at h
    obtain ⟨rfl, rfl, rfl⟩ := h
    refine ⟨hl, by omega, ?_⟩
    have hi2 : ∀ i, i < n → ∃ x : W, w.cell? (a.add i) = some (.int .u64 (U x)) ∧ True := by
      intro i hic
      obtain ⟨es, hes, hc, x, rfl, h1⟩ := hi i (by omega)
      have := hc 0 _ rfl
      simp only [Sh.size, Nat.mul_one, Nat.add_zero] at this
      have hx : 0 ≤ x ∧ x < 18446744073709551616 := by
        simp [Lit.wf, IntKind.min, IntKind.max, IntKind.signed, IntKind.bits] at h1
        omega
      exact ⟨BitVec.ofInt 64 x, by rw [U_of64 x hx.1 hx.2]; exact this, trivial⟩
    obtain ⟨l, hll, hlx⟩ := list_of n _ hi2
    refine ⟨l, hll, by rw [cellsW_len, hll, Nat.mul_one], fun h0 => ?_⟩
    obtain ⟨b, off, spot⟩ := a
    have hc := (hlx 0 (by omega)).1
    have hspot : spot = none := by simpa [Addr.add] using World.cell?_spot hc
    subst hspot
    refine ⟨b, off, rfl, fun j u hu => ?_⟩
    have hj : j < l.length := by have := (List.getElem?_eq_some_iff.1 hu).1; rwa [cellsW_len] at this
    rw [cellsW_get l j hj] at hu
    have := (hlx j hj).1
    rw [addAt] at this
    rw [this, ← hu]
theorem cell_drew {wr w8 : World} {m : Nat} (h : Hid (wr = w8.drewN m)) {a : Addr} {v : Value} (hc : w8.cell? a = some v) : wr.cell? a = some v := by rw [h.out]; exact hc
set_option maxRecDepth 100000 in
set_option maxHeartbeats 4000000 in
theorem treeSame_any (a0 : Option Addr) (len0 cap0 : Nat) (a1 : Int) (a2 : ByteArray) (a3 : Option Addr) (len3 cap3 : Nat) (w : World) (h0 : (.slice .str 16 : Sh).Ok w [.slice a0 len0 cap0]) (w1 : (Lit.int .i64 a1).wf = true) (w2 : a2.size ≤ maxLen) (r2 : a2.size ≤ 140737488351232) (h3 : (.slice (.int .u64) 8 : Sh).Ok w [.slice a3 len3 cap3]) :
    Calls Try.prog 4 #[.slice a0 len0 cap0, .int .i64 a1, .string a2, .slice a3 len3 cap3] w fun e w' => e = .returned (.bool true) ∧ Below w.heap.size w w' := by
  obtain ⟨hn0, hcap, hz0, l, hl, hs, hr⟩ := strs_open h0
  obtain ⟨hn3, hcap3, tr, htrl, hr3⟩ := words_open h3
  clear h0 w1 h3 w2 hz0
  by_cases h256 : 256 < len0
  · go_enter Try.func4, Try.ntmps4
    go_wp2_with fail
    refine (rootf_long a0 len0 cap0 _ h256).mono ?_
    rintro e w' ⟨rfl, rfl⟩
    go_wp2_with fail
    refine (trailf_long a0 len0 cap0 a1 _ h256).mono ?_
    rintro e w' ⟨rfl, rfl⟩
    go_wp2_with fail
    refine (lives_any _).mono ?_
    rintro e w2 ⟨rfl, hb2⟩
    go_wp2_with fail
    refine (lives_any _).mono ?_
    rintro e w3 ⟨rfl, hb3⟩
    go_wp2_with fail
    go_ret
    exact ⟨rfl, hb2.trans (hb3.mono hb2.size)⟩
  · by_cases hat : a1 < 0 ∨ (len0 : Int) ≤ a1
    · have hroot := rootf_any a0 len0 cap0 l w (by omega) hn0 (by omega) hs hr
      generalize rootL (lists l) = rt at *
      go_enter Try.func4, Try.ntmps4
      go_wp2_with fail
      refine hroot.mono ?_
      rintro e w' ⟨rfl, q, rfl⟩
      go_wp2_with fail
      refine (trailf_none a0 len0 cap0 a1 _ (by omega) hat).mono ?_
      rintro e w' ⟨rfl, rfl⟩
      clear hat
      go_wp2_with fail
      refine (lives_any _).mono ?_
      rintro e w2 ⟨rfl, hb2⟩
      go_wp2_with fail
      refine (lives_any _).mono ?_
      rintro e w3 ⟨rfl, hb3⟩
      go_wp2_with fail
      go_ret
      exact ⟨rfl, (below_drewN (Below.refl _ _) q).trans (hb2.trans (hb3.mono hb2.size))⟩
    · obtain ⟨at_, rfl⟩ := Int.eq_ofNat_of_zero_le (show 0 ≤ a1 by omega)
      have hat : at_ < len0 := by omega
      obtain ⟨b, o, rfl, hcell⟩ := hr.2 (by omega)
      have hroot := rootf_any (some ⟨b, o, none⟩) len0 cap0 l w (by omega) hn0 (by omega) hs hr
      have htr := fun q => trailf_any (some ⟨b, o, none⟩) len0 cap0 at_ l (w.drewN q) (by omega) hat hn0 (by omega) hs (hr.drewN q)
      have hll : (lists l).length = len0 := by rw [lists_len, hl]
      obtain ⟨s, hsl⟩ : ∃ s, l[at_]? = some s := ⟨_, List.getElem?_eq_getElem (by omega)⟩
      have hx := hcell at_ (.string s) (by unfold cellsS; rw [List.getElem?_map, hsl]; rfl)
      have hxs : s.size ≤ 9223372036854775807 := hs _ (List.mem_of_getElem? hsl)
      have hget : (lists l).getD at_ [] = s.data.toList := by
        unfold lists
        rw [List.getD_eq_getElem?_getD, List.getElem?_map, hsl]
        rfl
      have hy := holds_len (by omega) (holds_trail (lists l) at_ (by omega))
      rw [hll, hget] at hy
      have hdl := trailF_len len0 (lists l) at_
      have hH := fun W (hW : Rd W 1 a3 len3 (cellsW tr)) => holds_any (rootL (lists l)) a2 (by omega) at_ len0 a3 len3 cap3 tr W (by omega) (by omega) hat hn3 (by omega) hW
      have hHT : holdsB (rootL (lists l)) a2.data.toList at_ len0 tr = true → tr.length = depthF len0 at_ len0 ∧ ((sidesF len0 at_ len0).zip tr).foldl stepP (leafF a2.data.toList) = rootL (lists l) := fun h => holds_len hat h
      have hsd := sides_any len0 at_ len0
      have hsl2 := sides_len len0 at_ len0
      obtain ⟨hy1, hy2⟩ := hy
      have hlA := leaf_any s hxs
      have hlB := leaf_any a2 (by omega)
      clear hget hll hcell hsl hr hs hl
      generalize trailF len0 (lists l) at_ = t at *
      generalize rootL (lists l) = rt at *
      generalize sidesF len0 at_ len0 = sd at *
      generalize depthF len0 at_ len0 = dp at *
      obtain ⟨la, hla⟩ : ∃ x, leafF s.data.toList = x := ⟨_, rfl⟩
      obtain ⟨lb, hlb⟩ : ∃ x, leafF a2.data.toList = x := ⟨_, rfl⟩
      rw [hla] at hlA hy2
      rw [hlb] at hlB hHT
      clear hla hlb
      have hbl : b < w.heap.size := World.block_lt_of_cell? w _ hx
      have HBL := Lib.hid hbl
      have HSD := Lib.hid hsl2
      have HY1 := Lib.hid hy1
      have HY2 := Lib.hid hy2
      have HHT := Lib.hid hHT
      have HTRL := Lib.hid htrl
      have HR3 := Lib.hid hr3
      clear hbl hsl2 hy1 hy2 hHT htrl hr3
      have hlen256 : len0 ≤ 256 := by omega
      have hati : (at_ : Int) < (len0 : Int) := by omega
      have hati0 : (0 : Int) ≤ (at_ : Int) := by omega
      unfold TrailfPost at htr
      go_enter Try.func4, Try.ntmps4
      go_wp2_with fail
      refine hroot.mono ?_
      rintro e w1 ⟨rfl, q, rfl⟩
      clear hroot
      go_wp2_with fail
      refine (htr q).mono ?_
      rintro e w2 ⟨Ap, cp, rfl, hop, hb2⟩
      clear htr
      have HOP := Lib.hid hop
      have hb2 : Below w.heap.size w w2 := (below_drewN (Below.refl _ _) q).trans hb2
      clear hop
      go_wp2_with fail
      refine (lives_any _).mono ?_
      rintro e w3 ⟨rfl, hb3⟩
      have HOP := Lib.hid (HOP.out.later hb3)
      have hb3 := hb2.trans (hb3.mono hb2.size)
      have hx3 := cell_later hb3 hx
      have HR3 := Lib.hid (HR3.out.later hb3)
      clear hb2 hx
      go_wp2_with fail
      refine (hH _ HR3.out).mono ?_
      clear hH
      generalize holdsB rt a2.data.toList at_ len0 tr = ok at *
      rintro e w4 ⟨rfl, q4, rfl⟩
      obtain ⟨w5, HW5⟩ : ∃ w5, Hid (w3.drewN q4 = w5) := ⟨_, Lib.hid rfl⟩
      have hb5 : Below w.heap.size w w5 := by rw [← HW5.out]; exact below_drewN hb3 q4
      have hx5 : w5.cell? ⟨b, o + at_, none⟩ = some (.string s) := by rw [← HW5.out]; exact hx3
      have HOP : Hid (Rd w5 1 Ap t.length (cellsW t)) := by rw [← HW5.out]; exact (HOP.out.drewN q4).rd rfl
      have HR3 : Hid (Rd w5 1 a3 len3 (cellsW tr)) := by rw [← HW5.out]; exact HR3.out.drewN q4
      rw [HW5.out]
      clear hb3 hx3
      cases ok with
      | false =>
        go_wp2_with fail
        go_ret
        exact ⟨rfl, hb5⟩
      | true =>
        obtain ⟨h1, h2⟩ := HHT.out rfl
        have HH1 := Lib.hid h1
        have HH2 := Lib.hid h2
        have e3 := HTRL.out
        have e4 := HY1.out
        have hlen : len3 = t.length := by omega
        have hdp : dp = t.length := by omega
        subst hlen
        subst hdp
        clear h1 h2 e3 e4
        by_cases hst : a2 = s
        · subst hst
          have hq : (a2.toList == a2.toList) = true := bytes_true rfl
          go_wp2_with fail
          go_ret
          exact ⟨rfl, hb5⟩
        · have hq := bytes_false hst
          clear hst
          go_wp2_with fail
          refine (hlA _).mono ?_
          rintro e w6 ⟨rfl, q6, rfl⟩
          go_wp2_with fail
          refine (hlB _).mono ?_
          rintro e w7 ⟨rfl, q7, rfl⟩
          by_cases hab : la = lb
          · subst hab
            have hu : (U la == U la) = true := beq_self_eq_true _
            go_wp2_with fail
            go_ret
            exact ⟨rfl, below_drewN hb5 _⟩
          · have hu : (U la == U lb) = false := by rw [beq_eq_false_iff_ne]; exact fun h => hab (U_inj h)
            have HAB := Lib.hid hab
            clear hab hlA hlB
            go_wp2_with fail
            have hsd2 := fun W => hsd W (Nat.le_refl _) hlen256 (by omega) hat
            clear hsd
            refine (hsd2 _).mono ?_
            rintro e w8 ⟨As, cs, rfl, hos, hb8⟩
            have HOS := Lib.hid (hos.rd rfl)
            have hb8' : Below w5.heap.size w5 w8 := (below_drewN (Below.refl _ _) (q6 + q7)).trans hb8
            have HOP := Lib.hid (HOP.out.later hb8')
            have HR3 := Lib.hid (HR3.out.later hb8')
            have hb9 : Below w.heap.size w w8 := hb5.trans (hb8'.mono hb5.size)
            have hsl3 : sd.length = t.length := HSD.out
            have HH0 : Hid (along sd t la 0 ≠ along sd tr lb 0) := HAB.out
            clear hsd2 hos hx5 hb5 hb8 hb8' hq
            go_wp2_with fail
            go_loopw [15, 16, 89] (fun a b' i wr => ∃ (k m : Nat), k ≤ t.length ∧ i = .int .i64 (k : Int) ∧ a = .int .u64 (U (along sd t la k)) ∧ b' = .int .u64 (U (along sd tr lb k)) ∧ Hid (along sd t la k ≠ along sd tr lb k) ∧ Hid (wr = w8.drewN m)) (fun _ _ i _ => t.length - (intOf i).toNat)
            case atStart => exact ⟨0, 0, Nat.zero_le _, rfl, rfl, rfl, HH0, rfl⟩
            case round =>
              obtain ⟨k, m, hk, rfl, rfl, rfl, HK, HWR⟩ := hrel
              have hb10 : Below w.heap.size w wr := by rw [HWR.out]; exact below_drewN hb9 m
              by_cases hlt : k < t.length
              · have htk := HTRL.out
                obtain ⟨bs, os, rfl, hcs⟩ := HOS.out.2 (by omega)
                obtain ⟨bp, op, rfl, hcp⟩ := HOP.out.2 (by omega)
                obtain ⟨br, or_, rfl, hcr⟩ := HR3.out.2 (by omega)
                have g1 := cell_drew HWR (hcs k _ (cellsB_get sd k (by omega)))
                have g2 := cell_drew HWR (hcp k _ (cellsW_get t k hlt))
                have g3 := cell_drew HWR (hcr k _ (cellsW_get tr k (by omega)))
                have hA := along_succ sd t la k (by omega) hlt
                have hB := along_succ sd tr lb k (by omega) (by omega)
                clear hcs hcp hcr
                generalize t[k] = pk at *
                generalize tr[k]'(by omega) = rk at *
                generalize sd[k]'(by omega) = sk at *
                have hki : (k : Int) < (t.length : Int) := by omega
                have hki2 : (k : Int) < (sd.length : Int) := by omega
                have hk0 : (0 : Int) ≤ (k : Int) := by omega
                have htl : t.length ≤ 256 := by omega
                have HTRL := Lib.hid htk
                have HSL := Lib.hid hsl3
                clear htk hsl3
                obtain ⟨x1, HX1⟩ : ∃ x1, Hid (along sd t la (k + 1) = x1) := ⟨_, Lib.hid rfl⟩
                obtain ⟨y1, HY1⟩ : ∃ y1, Hid (along sd tr lb (k + 1) = y1) := ⟨_, Lib.hid rfl⟩
                rw [HX1.out] at hA
                rw [HY1.out] at hB
                generalize along sd t la k = x0 at *
                generalize along sd tr lb k = y0 at *
                cases sk with
                | false =>
                  have HA : Hid (along sd t la (k + 1) = pairF x0 pk) := HX1.out.trans hA
                  have HB : Hid (along sd tr lb (k + 1) = pairF y0 rk) := HY1.out.trans hB
                  clear hA hB HX1 HY1
                  go_wp2_with fail
                  go_quiet ((go_at_call 20; exact quiet_of (pair_any _ _ _)))

                  by_cases hxy : pairF x0 pk = pairF y0 rk
                  · have hu : (U (pairF x0 pk) == U (pairF y0 rk)) = true := by rw [hxy]; exact beq_self_eq_true _
                    clear hxy
                    go_wp2_with fail
                    go_ret
                    exact ⟨rfl, below_drewN hb10 _⟩
                  · have hu : (U (pairF x0 pk) == U (pairF y0 rk)) = false := by rw [beq_eq_false_iff_ne]; exact fun h => hxy (U_inj h)
                    have HXY := Lib.hid hxy
                    clear hxy
                    go_wp2_with fail
                    go_roundw
                    case rel => exact ⟨k + 1, _, by omega, by go_num, by rw [HA.out], by rw [HB.out], by show _ ≠ _; rw [HA.out, HB.out]; exact HXY.out, by show _ = _; rw [HWR.out]; simp; rfl⟩
                    case measure => simp [intOf]; omega
                | true =>
                  have HA : Hid (along sd t la (k + 1) = pairF pk x0) := HX1.out.trans hA
                  have HB : Hid (along sd tr lb (k + 1) = pairF rk y0) := HY1.out.trans hB
                  clear hA hB HX1 HY1
                  go_wp2_with fail
                  go_quiet ((go_at_call 20; exact quiet_of (pair_any _ _ _)))
                  obtain ⟨wq, HWQ⟩ : ∃ wq, Hid (wq = wr.drewN nq) := ⟨_, Lib.hid rfl⟩
                  rw [← HWQ.out]
                  have g4 := cell_drew HWQ g2
                  have g5 := cell_drew HWQ g3
                  have g6 := cell_drew HWQ g1
                  have hb10 : Below w.heap.size w wq := by rw [HWQ.out]; exact below_drewN hb10 nq
                  go_wp2_with fail
                  go_quiet ((go_at_call 20; exact quiet_of (pair_any _ _ _)))

                  by_cases hxy : pairF pk x0 = pairF rk y0
                  · have hu : (U (pairF pk x0) == U (pairF rk y0)) = true := by rw [hxy]; exact beq_self_eq_true _
                    clear hxy
                    go_wp2_with fail
                    go_ret
                    exact ⟨rfl, below_drewN hb10 _⟩
                  · have hu : (U (pairF pk x0) == U (pairF rk y0)) = false := by rw [beq_eq_false_iff_ne]; exact fun h => hxy (U_inj h)
                    have HXY := Lib.hid hxy
                    clear hxy
                    go_wp2_with fail
                    go_roundw
                    case rel => exact ⟨k + 1, _, by omega, by go_num, by rw [HA.out], by rw [HB.out], by show _ ≠ _; rw [HA.out, HB.out]; exact HXY.out, by show _ = _; rw [HWQ.out, HWR.out]; simp; rfl⟩
                    case measure => simp [intOf]; omega
              · exfalso
                obtain rfl : k = t.length := by omega
                have h1 := along_all sd t la t.length hsl3.symm rfl
                have h2 := along_all sd tr lb t.length hsl3.symm HTRL.out.symm
                exact HK.out (by rw [h1, h2, HY2.out, HH2.out])
end Go.Proofs.Ytmooknaljkeaaaa.Tree
