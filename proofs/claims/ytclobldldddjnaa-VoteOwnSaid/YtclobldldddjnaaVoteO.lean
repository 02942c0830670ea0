/-
  The walks of vote.leave, vote.Cast and vote.Back once more: what they lay is told with its spare cells.
-/
import Derived.Test.YtclobldldddjnaaVoteQ
import Derived.Test.YtclobldldddjnaaMem
set_option linter.unusedVariables false
namespace Go.Proofs.Ytclobldldddjnaa.Vote.Own
open Go.RowKit Go.Proofs.Ytclobldldddjnaa Go.Proofs.Ytclobldldddjnaa.Bv Go.Proofs.Ytclobldldddjnaa.Vote

def GU (_ : Nat) (u : Value) : Prop := ∃ n : Int, u = .int .u32 n
def RowU (w : World) (base : Nat) (v : Value) (n : Nat) (xs : List Value) : Prop := Go.Proofs.Ytclobldldddjnaa.Own w base 42 1 GU v n xs
section
variable {w w' : World} {base n : Nat} {v : Value} {xs : List Value}
theorem RowU.row (h : RowU w base v n xs) : w.ownsRow base 42 1 v n xs := Go.Proofs.Ytclobldldddjnaa.Own.row h
theorem RowU.later (h : RowU w base v n xs) (hb : Below w.heap.size w w') : RowU w' base v n xs := Go.Proofs.Ytclobldldddjnaa.Own.later h hb
theorem RowU.mono (h : RowU w base v n xs) {base' : Nat} (hb : base' ≤ base) : RowU w base' v n xs := Go.Proofs.Ytclobldldddjnaa.Own.mono h hb
theorem RowU.drew (h : RowU w base v n xs) : RowU w.drew base v n xs := h
theorem rowU_below (h : RowU w base v n xs) {a : Addr} (ha : a.block < base) (u : Value) : RowU (w.setCell a u) base v n xs :=
  Go.Proofs.Ytclobldldddjnaa.Own.other h (fun e => by have := (RowU.row h).lt _ e; omega) u
theorem RowU.lt (h : RowU w base v n xs) : ∀ k, v.ownBlock = some k → base ≤ k ∧ k < w.heap.size := (RowU.row h).lt
theorem RowU.cellAt {g c : Nat} (h : RowU w base (.slice (some ⟨g, 0, none⟩) n c) n xs) (j : Nat) (hj : j < n * 1) : w.cell? ⟨g, j, none⟩ = xs[j]? := Go.Proofs.Ytclobldldddjnaa.Own.cell h j hj
theorem RowU.frozenAt {g c : Nat} (h : RowU w base (.slice (some ⟨g, 0, none⟩) n c) n xs) (j : Nat) : w.frozen? ⟨g, j, none⟩ = false := Go.Proofs.Ytclobldldddjnaa.Own.free h j
theorem RowU.stored {g c : Nat} (h : RowU w base (.slice (some ⟨g, 0, none⟩) n c) n xs) (j : Nat) (u : Int) : RowU (w.setCell ⟨g, j, none⟩ (.int .u32 u)) base (.slice (some ⟨g, 0, none⟩) n c) n (xs.set j (.int .u32 u)) ∧ True :=
  ⟨Go.Proofs.Ytclobldldddjnaa.Own.stored h j _ ⟨u, rfl⟩, trivial⟩
end
set_option maxHeartbeats 4000000 in
set_option maxRecDepth 100000 in
theorem leave_any (m : Nat) (hm : m < 4294967296) (l : List Nat) (hl : l.length = 16) (hb32 : ∀ x ∈ l, x < 4294967296) (g r c base : Nat) (k : Nat) (hk : k < 16) (w : World)
    (hA : Blk w g [.int .u32 (m : Int), .slice (some ⟨r, 0, none⟩) 16 c] 46 (0, 0)) (hg : g < base)
    (hown : RowU w base (.slice (some ⟨r, 0, none⟩) 16 c) 16 (cellsU l))
    (h : Nat) (ys : List Value) (hY : Blk w h ys 46 (0, 0)) (hhg : h ≠ g) (hhb : h < base) :
    Calls Try.prog 48 #[.pointer (some ⟨g, 0, none⟩), .int .i64 (k : Int)] w fun e w' => e = .returned (.tuple #[]) ∧ Below g w w' ∧
      Blk w' g [.int .u32 (diff m (2 ^ k) : Int), .slice (some ⟨r, 0, none⟩) 16 c] 46 (0, 0) ∧ RowU w' base (.slice (some ⟨r, 0, none⟩) 16 c) 16 (cellsU (leaveL l k)) ∧ Blk w' h ys 46 (0, 0) := by
  have q1 : w.cell? ⟨g, 0, none⟩ = some (.int .u32 (m : Int)) := hA.cell 0
  have q2 : w.cell? ⟨g, 1, none⟩ = some (.slice (some ⟨r, 0, none⟩) 16 c) := hA.cell 1
  have q3 : w.frozen? ⟨g, 0, none⟩ = false := hA.free 0 (.inr (Nat.zero_le _))
  have hd := diff_num m (2 ^ k)
  have e1 : IntKind.u32.wrap (2 ^ k : Int) = ((2 ^ k : Nat) : Int) := by
    have := one_lt (k := k) (by omega)
    have e : (2 ^ k : Int) = ((2 ^ k : Nat) : Int) := by simp
    rw [e]; exact wraps_u32 _ (Int.natCast_nonneg _) (by rw [show (2 : Int) ^ 32 = ((4294967296 : Nat) : Int) from rfl]; exact Int.ofNat_lt.2 this)
  generalize hpk : 2 ^ k = P at hd e1
  generalize diff m P = m' at hd
  go_enter Try.func48, Try.ntmps48
  go_wp2_with fail
  go_region
  have hrl := hown.lt r rfl
  have hA1 : Blk (w.setCell ⟨g, 0, none⟩ (.int .u32 (m' : Int))).drew g [.int .u32 (m' : Int), .slice (some ⟨r, 0, none⟩) 16 c] 46 (0, 0) := hA.set 0 _
  have hown1 : RowU (w.setCell ⟨g, 0, none⟩ (.int .u32 (m' : Int))).drew base (.slice (some ⟨r, 0, none⟩) 16 c) 16 (cellsU l) := rowU_below hown (a := ⟨g, 0, none⟩) hg _
  have hY1 : Blk (w.setCell ⟨g, 0, none⟩ (.int .u32 (m' : Int))).drew h ys 46 (0, 0) := hY.other hhg 0 _
  have hb1 : Below g w (w.setCell ⟨g, 0, none⟩ (.int .u32 (m' : Int))).drew := ((Below.refl g w).setCell (p := ⟨g, 0, none⟩) (Nat.le_refl _) _).drew
  generalize (w.setCell ⟨g, 0, none⟩ (.int .u32 (m' : Int))).drew = W1 at *
  clear q1 q2 q3 hown hA hd hY
  have q2 : W1.cell? ⟨g, 1, none⟩ = some (.slice (some ⟨r, 0, none⟩) 16 c) := hA1.cell 1
  have q8 : W1.cell? ⟨r, k, none⟩ = some (.int .u32 ((l[k] : Nat) : Int)) := by
    rw [hown1.cellAt k (by omega)]
    exact cellsU_get l k (by omega)
  have q4 : W1.frozen? ⟨r, k, none⟩ = false := hown1.frozenAt k
  have HB : Hid (Below g w (W1.setCell ⟨r, k, none⟩ (.int .u32 0))) := hb1.setCell (p := ⟨r, k, none⟩) (by show g ≤ r; omega) _
  have HA : Hid (Blk (W1.setCell ⟨r, k, none⟩ (.int .u32 0)) g [.int .u32 (m' : Int), .slice (some ⟨r, 0, none⟩) 16 c] 46 (0, 0)) := hA1.other (by omega) k _
  have HO : Hid (RowU (W1.setCell ⟨r, k, none⟩ (.int .u32 0)) base (.slice (some ⟨r, 0, none⟩) 16 c) 16 (cellsU (part k (l.set k 0) 0))) := by
    have h := (hown1.stored k ((0 : Nat) : Int)).1
    rw [cellsU_set] at h
    exact h
  have HY : Hid (Blk (W1.setCell ⟨r, k, none⟩ (.int .u32 0)) h ys 46 (0, 0)) := hY1.other (by omega) k _
  have q7 : (W1.setCell ⟨r, k, none⟩ (.int .u32 0)).cell? ⟨g, 1, none⟩ = some (.slice (some ⟨r, 0, none⟩) 16 c) := HA.out.cell 1
  clear hb1 hA1 hown1 hY1
  go_wp2_with fail
  have hlen : (l.set k 0).length = 16 := by rw [List.length_set]; exact hl
  go_loopw [25] (fun i wr => ∃ j : Nat, j ≤ 16 ∧ i = .int .i64 (j : Int) ∧ Below g w wr ∧ Blk wr g [.int .u32 (m' : Int), .slice (some ⟨r, 0, none⟩) 16 c] 46 (0, 0) ∧ RowU wr base (.slice (some ⟨r, 0, none⟩) 16 c) 16 (cellsU (part k (l.set k 0) j)) ∧ Blk wr h ys 46 (0, 0)) (fun i _ => 16 - (intOf i).toNat)
  case atStart => exact ⟨0, Nat.zero_le _, rfl, HB.out, HA.out, HO.out, HY.out⟩
  case round =>
    obtain ⟨j, hj, rfl, hb, hA, hown, hY⟩ := hrel
    have q2 : wr.cell? ⟨g, 1, none⟩ = some (.slice (some ⟨r, 0, none⟩) 16 c) := hA.cell 1
    by_cases hlt : j < 16
    · obtain ⟨x, HX⟩ : ∃ x, Hid ((l.set k 0)[j]'(by rw [hlen]; exact hlt) = x) := ⟨_, Lib.hid rfl⟩
      have hat := part_at k (l.set k 0) j (by rw [hlen]; exact hlt)
      have hset := part_set k (l.set k 0) j (by rw [hlen]; exact hlt)
      rw [HX.out] at hat hset
      have q5 : wr.cell? ⟨r, j, none⟩ = some (.int .u32 (x : Int)) := by
        rw [hown.cellAt j (by omega)]
        unfold cellsU
        rw [List.getElem?_map, hat]; rfl
      have q6 : wr.frozen? ⟨r, j, none⟩ = false := hown.frozenAt j
      have hd := diff_num x P
      have hy : diff x P = out1 k x := by unfold out1; rw [hpk]
      rw [hy] at hd
      have hst := (hown.stored j ((out1 k x : Nat) : Int)).1
      rw [cellsU_set, hset] at hst
      have HB2 : Hid (Below g w (wr.setCell ⟨r, j, none⟩ (.int .u32 ((out1 k x : Nat) : Int)))) := hb.setCell (p := ⟨r, j, none⟩) (by show g ≤ r; omega) _
      have HA2 : Hid (Blk (wr.setCell ⟨r, j, none⟩ (.int .u32 ((out1 k x : Nat) : Int))) g [.int .u32 (m' : Int), .slice (some ⟨r, 0, none⟩) 16 c] 46 (0, 0)) := hA.other (by omega) j _
      have HO2 := Lib.hid hst
      have HY2 : Hid (Blk (wr.setCell ⟨r, j, none⟩ (.int .u32 ((out1 k x : Nat) : Int))) h ys 46 (0, 0)) := hY.other (by omega) j _
      clear hst hat hset hy hown hA hb hY
      generalize out1 k x = y at *
      go_wp2_with fail
      go_region
      go_wp2_with fail
      exact ⟨⟨j + 1, by omega, by go_num, HB2.out.drew, HA2.out, HO2.out, HY2.out⟩, by simp [intOf]; omega⟩
    · obtain rfl : j = 16 := by omega
      go_wp2_with fail
      first | exact ⟨.tuple #[], rfl, rfl, hb, hA, hown, hY⟩ | (simp [bodyPost]; exact ⟨.tuple #[], rfl, rfl, hb, hA, hown, hY⟩) | (simp [bodyPost, results, Try.f48]; exact ⟨hb, hA, hown, hY⟩) | (go_ret; trace_state; sorry)
theorem sets_of {w : World} {base r c : Nat} {l : List Nat} (h : RowU w base (.slice (some ⟨r, 0, none⟩) 16 c) 16 (cellsU l)) (hn : l.length = 16) (hs : ∀ z ∈ l, z < 4294967296) : Sets w r 0 l :=
  fun k hk => ⟨by rw [Nat.zero_add, h.cellAt k (by omega), cellsU_get l k hk], hs _ (List.getElem_mem hk)⟩
/-- How many cells of a row are not 0. -/
def nzW (w : World) (r : Nat) : Nat := ((List.range 16).filter fun j => match w.cell? ⟨r, j, none⟩ with | some (.int _ n) => n != 0 | _ => false).length
theorem nz_range (l : List Nat) : nz l = ((List.range l.length).filter fun j => l.getD j 0 != 0).length := by
  have e : l = (List.range l.length).map fun j => l.getD j 0 := by
    apply List.ext_getElem
    · simp
    · intro i h1 h2; simp [h1]
  unfold nz
  conv => lhs; rw [e]
  rw [List.filter_map, List.length_map]
  rfl
theorem nzW_eq {w : World} {base r c : Nat} {l : List Nat} (h : RowU w base (.slice (some ⟨r, 0, none⟩) 16 c) 16 (cellsU l)) (hn : l.length = 16) : nzW w r = nz l := by
  rw [nz_range, hn]
  unfold nzW
  congr 1
  apply List.filter_congr
  intro j hj
  have hj' : j < l.length := by rw [hn]; exact List.mem_range.1 hj
  rw [h.cellAt j (by omega), cellsU_get l j hj']
  rw [List.getD_eq_getElem?_getD, List.getElem?_eq_getElem hj']
  by_cases h0 : l[j] = 0
  · simp [h0]
  · have h1 : ((l[j] : Nat) : Int) ≠ 0 := by omega
    show (((l[j] : Nat) : Int) != 0) = (l[j] != 0)
    rw [bne_iff_ne.2 h1, bne_iff_ne.2 h0]
set_option maxHeartbeats 800000 in
set_option maxRecDepth 100000 in
theorem cast_good (m : Nat) (hm : m < 4294967296) (l : List Nat) (hn : l.length = 16) (b o c p q : Nat) (hp : p < 16) (hq : q < 16) (w : World) (hl : Sets w b o l)
    (hc : check m l = 0) (h1 : memb m (p : Int) = true) (h2 : memb m (q : Int) = true) (hpq : p ≠ q) (hbit : (l[q]).testBit p = false) :
    Calls Try.prog 26 #[.agg #[.int .u32 (m : Int), .slice (some ⟨b, o, none⟩) 16 c], .int .i64 (p : Int), .int .i64 (q : Int)] w fun e w' =>
      ∃ r c', e = .returned (.tuple #[.agg #[.int .u32 ((purge 16 m (l.set q (l[q] ||| 2 ^ p))).1 : Int), .slice (some ⟨r, 0, none⟩) 16 c'], .bool (!memb (purge 16 m (l.set q (l[q] ||| 2 ^ p))).1 (q : Int)), .int .i64 0]) ∧ Below w.heap.size w w' ∧
        RowU w' w.heap.size (.slice (some ⟨r, 0, none⟩) 16 c') 16 (cellsU (purge 16 m (l.set q (l[q] ||| 2 ^ p))).2) := by
  obtain ⟨i0, hi, hz0, hz1, hz2⟩ := info_parts infoU32
  obtain ⟨hp1, hx⟩ := hl q (by omega)
  have e1 := bit_num l[q] p hx
  rw [hbit] at e1
  have e3 : ((l[q] / 2 ^ p : Nat) : Int) = (l[q] : Int) / 2 ^ p := by simp
  rw [e3] at e1
  have hpq2 : ((p : Int) == (q : Int)) = false := by simp; omega
  have hB := Box.new w [.int .u32 (m : Int), .slice (some ⟨b, o, none⟩) 16 c] [.int .u32 0, .slice none 0 0]
  obtain ⟨x, HX⟩ : ∃ x, Hid (l[q] = x) := ⟨_, Lib.hid rfl⟩
  rw [HX.out] at e1 hx hp1 ⊢
  obtain ⟨y, HYY⟩ : ∃ y, Hid (x ||| 2 ^ p = y) := ⟨_, Lib.hid rfl⟩
  rw [HYY.out]
  obtain ⟨l0, HL0⟩ : ∃ l0, Hid (l.set q y = l0) := ⟨_, Lib.hid rfl⟩
  rw [HL0.out]
  clear e3 hbit
  go_enter Try.func26, Try.ntmps26
  go_wp2_with fail
  refine (check_any m hm l b o c _ (hl.later (((Below.refl _ _).alloc (Nat.le_refl _) _).alloc (by simp) _)) hn).mono ?_
  rintro e w1 ⟨rfl, hb⟩
  replace hB := hB.later hb
  rw [hc]
  clear hb
  obtain ⟨k1, k2, k3, k4⟩ := hB.cells
  go_wp2_with fail
  refine (member_any m hm _ _ _ _ _).mono ?_
  rintro e w2 ⟨rfl, hb⟩
  replace hB := hB.later hb
  rw [h1]
  clear hb k1 k2 k3 k4
  obtain ⟨k1, k2, k3, k4⟩ := hB.cells
  go_wp2_with fail
  refine (member_any m hm _ _ _ _ _).mono ?_
  rintro e w3 ⟨rfl, hb⟩
  replace hB := hB.later hb
  rw [h2]
  clear hb k1 k2 k3 k4
  obtain ⟨k1, k2, k3, k4⟩ := hB.cells
  have hl3 := hl.later hB.below
  have hp3 := (hl3 q (by omega)).1
  rw [HX.out] at hp3
  have hcl : ∀ j u, (cellsU l)[j]? = some u → w3.cell? ⟨b, o + j, none⟩ = some u := by
    intro j u hu
    have hjl : j < l.length := by have := (List.getElem?_eq_some_iff.1 hu).1; rwa [cellsU_len] at this
    rw [cellsU_get l j hjl] at hu
    rw [(hl3 j hjl).1]; exact hu
  go_wp2_with fail
  refine (clone_all Try.laysSlE041_f31 i0 (.int .u32 0) 1 4 hi hz0 hz1 hz2 rfl (by decide) (by intro w; rfl) GU (fun j u hu => by match j, hu with | 0, hu => exact ⟨0, (Option.some.inj hu).symm⟩) ⟨b, o, none⟩ 16 c (cellsU l) w3 (by decide) (by decide) ⟨by rw [cellsU_len]; omega, fun _ => ⟨b, o, rfl, hcl⟩⟩ ?_ ?_).mono ?_
  · intro u hu
    unfold cellsU at hu
    obtain ⟨x, _, rfl⟩ := List.mem_map.1 hu
    rfl
  · intro j u hu
    have hu := List.mem_of_getElem? hu
    unfold cellsU at hu
    obtain ⟨x, _, rfl⟩ := List.mem_map.1 hu
    exact ⟨_, rfl⟩
  have hbase : w.heap.size + 1 < w3.heap.size := hB.two.lt
  rintro e w4 ⟨v', rfl, hown, hnil, hb⟩
  obtain ⟨r, c', rfl, hr⟩ : ∃ r c', v' = .slice (some ⟨r, 0, none⟩) 16 c' ∧ w3.heap.size ≤ r := by
    rcases hown.2 with ⟨h, _⟩ | ⟨g, cap, cur, h, hg, _⟩
    · exact absurd h hnil
    · exact ⟨g, cap, h, hg⟩
  replace hB := hB.later hb
  clear hb k1 k2 k3 k4 hcl hnil hp3 hl3
  obtain ⟨k1, k2, k3, k4⟩ := hB.cells
  have f1 : w4.frozen? ⟨w.heap.size, 1, none⟩ = false := hB.one.free 1 (.inr (Nat.zero_le _))
  have hB5 : Box w (w4.setCell ⟨w.heap.size, 1, none⟩ (.slice (some ⟨r, 0, none⟩) 16 c')) [.int .u32 (m : Int), .slice (some ⟨r, 0, none⟩) 16 c'] [.int .u32 0, .slice none 0 0] :=
    ⟨hB.one.set 1 _, hB.two.other (by omega) 1 _, hB.below.setCell (p := ⟨w.heap.size, 1, none⟩) (Nat.le_refl _) _⟩
  have hown5 : RowU (w4.setCell ⟨w.heap.size, 1, none⟩ (.slice (some ⟨r, 0, none⟩) 16 c')) w3.heap.size (.slice (some ⟨r, 0, none⟩) 16 c') 16 (cellsU l) := rowU_below hown (a := ⟨w.heap.size, 1, none⟩) (by show w.heap.size < _; omega) _
  have HB5 := Lib.hid hB5
  have HO5 := Lib.hid hown5
  clear hB5 hown5 hown
  go_wp2_with fail
  generalize w4.setCell ⟨w.heap.size, 1, none⟩ (.slice (some ⟨r, 0, none⟩) 16 c') = W5 at *
  have hB5 := HB5.out
  have hown5 := HO5.out
  clear hB k1 k2 k3 k4 f1
  obtain ⟨k1, k2, k3, k4⟩ := hB5.cells
  have hrl := (hown5.lt r rfl).2
  have q1 : W5.cell? ⟨r, q, none⟩ = some (.int .u32 (x : Int)) := by
    rw [hown5.cellAt q (by omega), cellsU_get l q (by omega), HX.out]
  have q2 : W5.frozen? ⟨r, q, none⟩ = false := hown5.frozenAt q
  have hP := one_lt (k := p) (by omega)
  have hw : IntKind.u32.wrap (2 ^ p : Int) = ((2 ^ p : Nat) : Int) := by
    have e : (2 ^ p : Int) = ((2 ^ p : Nat) : Int) := by simp
    rw [e]; exact wraps_u32 _ (Int.natCast_nonneg _) (by rw [show (2 : Int) ^ 32 = ((4294967296 : Nat) : Int) from rfl]; exact Int.ofNat_lt.2 hP)
  have hor := or_num x (2 ^ p) hx hP
  have hy := lt_or hx hP
  rw [HYY.out] at hor hy
  generalize hPP : 2 ^ p = P at hw hor hP
  go_region
  have hl0 : (l.set q y).length = 16 := by rw [List.length_set]; exact hn
  have hs0 : ∀ z ∈ l.set q y, z < 4294967296 := by
    intro z hz
    rcases List.mem_or_eq_of_mem_set hz with h | h
    · obtain ⟨j, hj, rfl⟩ := List.mem_iff_getElem.1 h; exact (hl j hj).2
    · rw [h]; exact hy
  have hB6 : Box w (W5.setCell ⟨r, q, none⟩ (.int .u32 (y : Int))).drew [.int .u32 (m : Int), .slice (some ⟨r, 0, none⟩) 16 c'] [.int .u32 0, .slice none 0 0] :=
    ⟨hB5.one.other (by omega) q _, hB5.two.other (by omega) q _, (hB5.below.setCell (p := ⟨r, q, none⟩) (by show w.heap.size ≤ r; omega) _).drew⟩
  have hown6 : RowU (W5.setCell ⟨r, q, none⟩ (.int .u32 (y : Int))).drew w3.heap.size (.slice (some ⟨r, 0, none⟩) 16 c') 16 (cellsU (l.set q y)) := by
    have h := (hown5.stored q (y : Int)).1
    rw [cellsU_set] at h
    exact h
  generalize (W5.setCell ⟨r, q, none⟩ (.int .u32 (y : Int))).drew = W6 at *
  rw [HL0.out] at hl0 hs0 hown6
  clear hB5 hown5 HB5 HO5 k1 k2 k3 k4 q1 q2 hw hor hrl hPP hP e1 hpq2 hc h1 hp1
  obtain ⟨k1, k2, k3, k4⟩ := hB6.cells
  have hou := outvoted_any m hm l0 r 0 c' W6 (sets_of hown6 hl0 hs0) (by omega) (by omega)
  rw [hl0, show outIdx ((size m : Int) / 2 + 1) l0 0 = worst m l0 from rfl] at hou
  go_wp2_with fail
  refine hou.mono ?_
  rintro e W7 ⟨rfl, hb⟩
  replace hB6 := hB6.later hb
  replace hown6 := RowU.later hown6 hb
  clear hb k1 k2 k3 k4
  go_wp2_with fail
  go_loopw [10] (fun v wr => ∃ (f m1 : Nat) (l1 : List Nat), v = .int .i64 (worst m1 l1) ∧ m1 < 4294967296 ∧ l1.length = 16 ∧ (∀ z ∈ l1, z < 4294967296) ∧ Box w wr [.int .u32 (m1 : Int), .slice (some ⟨r, 0, none⟩) 16 c'] [.int .u32 0, .slice none 0 0] ∧ RowU wr w3.heap.size (.slice (some ⟨r, 0, none⟩) 16 c') 16 (cellsU l1) ∧ nz l1 ≤ f ∧ Hid (purge f m1 l1 = purge 16 m l0)) (fun _ wr => nzW wr r)
  case atStart => exact ⟨16, m, l0, rfl, hm, hl0, hs0, hB6, hown6, by have := nz_le l0; omega, rfl⟩
  case round =>
    clear hB6 hown6
    obtain ⟨f, m1, l1, rfl, hm1, hl1, hs1, hB, hown, hf, HP⟩ := hrel
    by_cases hw0 : 0 ≤ worst m1 l1
    · obtain ⟨k, hk, hkl, hks⟩ := worst_at hw0
      have hless := leave_less hl1 hkl hks
      obtain ⟨f', rfl⟩ : ∃ f', f = f' + 1 := ⟨f - 1, by omega⟩
      have HP2 : Hid (purge f' (diff m1 (2 ^ k)) (leaveL l1 k) = purge 16 m l0) := by
        have h := HP.out
        unfold purge at h
        rw [if_pos hw0, hk] at h
        exact h
      have hnw := nzW_eq hown hl1
      rw [hk]
      go_wp2_with fail
      refine (leave_any m1 hm1 l1 hl1 hs1 w.heap.size r c' w3.heap.size k (by omega) wr hB.one (by omega) hown (w.heap.size + 1) _ hB.two (by omega) hbase).mono ?_
      rintro e W8 ⟨rfl, hb8, hA8, hown8, hY8⟩
      have hB8 : Box w W8 [.int .u32 (diff m1 (2 ^ k) : Int), .slice (some ⟨r, 0, none⟩) 16 c'] [.int .u32 0, .slice none 0 0] := ⟨hA8, hY8, hB.below.trans hb8⟩
      have hl8 := leaveL_len l1 k hl1
      have hs8 := leaveL_lt l1 k hl1 
      generalize leaveL l1 k = l2 at *
      generalize hm2 : diff m1 (2 ^ k) = m2 at *
      have hm2' : m2 < 4294967296 := by rw [← hm2]; exact diff_lt _ _
      clear hA8 hY8 hb8 hB hown
      obtain ⟨k1, k2, k3, k4⟩ := hB8.cells
      have hou := outvoted_any m2 hm2' l2 r 0 c' W8 (sets_of hown8 hl8 hs8) (by omega) (by omega)
      rw [hl8, show outIdx ((size m2 : Int) / 2 + 1) l2 0 = worst m2 l2 from rfl] at hou
      go_wp2_with fail
      refine hou.mono ?_
      rintro e W9 ⟨rfl, hb9⟩
      have hB9 := hB8.later hb9
      have hown9 := RowU.later hown8 hb9
      have hnw9 := nzW_eq hown9 hl8
      clear k1 k2 k3 k4 hb9 hB8 hown8 hou
      go_wp2_with fail
      exact ⟨⟨f', m2, l2, rfl, hm2', hl8, hs8, hB9, hown9, by omega, HP2.out⟩, by rw [hnw9, hnw]; exact hless⟩
    · have hend : purge 16 m l0 = (m1, l1) := by
        rw [← HP.out]
        cases f with
        | zero => rfl
        | succ f => unfold purge; rw [if_neg hw0]
      have HE := Lib.hid hend
      obtain ⟨k1, k2, k3, k4⟩ := hB.cells
      have f1 : wr.frozen? ⟨w.heap.size + 1, 0, none⟩ = false := hB.two.free 0 (.inr (Nat.zero_le _))
      have f2 : wr.frozen? ⟨w.heap.size + 1, 1, none⟩ = false := hB.two.free 1 (.inr (Nat.zero_le _))
      clear hend hou hs0 hl0
      go_wp2_with fail
      go_region_with ((go_at_call 47; refine (member_any m1 hm1 _ _ _ _ _).mono ?_; rintro e w9 ⟨rfl, hb9⟩; first | (have hB9 := (Box.drew hB).later hb9; obtain ⟨j1, j2, j3, j4⟩ := hB9.cells; have g1 := hB9.two.free 0 (.inr (Nat.zero_le _)); have g2 := hB9.two.free 1 (.inr (Nat.zero_le _))) | skip))
      all_goals have hT : Blk ((w9.setCell ⟨w.heap.size + 1, 0, none⟩ (.int .u32 (m1 : Int))).setCell ⟨w.heap.size + 1, 1, none⟩ (.slice (some ⟨r, 0, none⟩) 16 c')) (w.heap.size + 1) [.int .u32 (m1 : Int), .slice (some ⟨r, 0, none⟩) 16 c'] 46 (0, 0) := (hB9.two.set 0 _).set 1 _
      all_goals have hO : RowU ((w9.setCell ⟨w.heap.size + 1, 0, none⟩ (.int .u32 (m1 : Int))).setCell ⟨w.heap.size + 1, 1, none⟩ (.slice (some ⟨r, 0, none⟩) 16 c')) w3.heap.size (.slice (some ⟨r, 0, none⟩) 16 c') 16 (cellsU l1) := rowU_below (rowU_below (RowU.later (hown.drew) hb9) (a := ⟨w.heap.size + 1, 0, none⟩) hbase _) (a := ⟨w.heap.size + 1, 1, none⟩) hbase _
      all_goals have hW : Below w.heap.size w ((w9.setCell ⟨w.heap.size + 1, 0, none⟩ (.int .u32 (m1 : Int))).setCell ⟨w.heap.size + 1, 1, none⟩ (.slice (some ⟨r, 0, none⟩) 16 c')) := (hB9.below.setCell (p := ⟨w.heap.size + 1, 0, none⟩) (Nat.le_succ _) _).setCell (p := ⟨w.heap.size + 1, 1, none⟩) (Nat.le_succ _) _
      all_goals have y1 := hT.cell 0
      all_goals have y2 := hT.cell 1
      all_goals simp only [List.getElem?_cons_zero, List.getElem?_cons_succ] at y1 y2
      all_goals go_wp2_with fail
      all_goals (refine bodyPost_ret (v := .tuple #[.agg #[.int .u32 (m1 : Int), .slice (some ⟨r, 0, none⟩) 16 c'], .bool (!memb m1 (q : Int)), .int .i64 0]) ?_ rfl ?_)
      all_goals first | (refine ⟨r, c', ?_, hW, ?_⟩ <;> rw [HE.out] <;> first | exact RowU.mono hO (by omega) | rfl) | (unfold results; rw [show Try.f26.results = #[.cell 6 46, .tmp 7, .tmp 8] from rfl]; go_simp)
/-- What Back answers where one is taken back. -/
def BackYea (m : Nat) (l : List Nat) (w : World) (e : Ending) (w' : World) : Prop :=
  ∃ r c', e = .returned (.tuple #[.agg #[.int .u32 (m : Int), .slice (some ⟨r, 0, none⟩) 16 c'], .int .i64 0]) ∧ Below w.heap.size w w' ∧ RowU w' w.heap.size (.slice (some ⟨r, 0, none⟩) 16 c') 16 (cellsU l)
set_option maxHeartbeats 1000000 in
set_option maxRecDepth 100000 in
theorem back_yea (m : Nat) (hm : m < 4294967296) (l : List Nat) (hn : l.length = 16) (b o c p q : Nat) (hp : p < 16) (hq : q < 16) (w : World) (hl : Sets w b o l)
    (hc : check m l = 0) (h1 : memb m (p : Int) = true) (h2 : memb m (q : Int) = true) (hbit : (l[q]).testBit p = true) :
    Calls Try.prog 29 #[.agg #[.int .u32 (m : Int), .slice (some ⟨b, o, none⟩) 16 c], .int .i64 (p : Int), .int .i64 (q : Int)] w (BackYea m (l.set q (diff l[q] (2 ^ p))) w) := by
  obtain ⟨i0, hi, hz0, hz1, hz2⟩ := info_parts infoU32
  obtain ⟨hp1, hx⟩ := hl q (by omega)
  have e1 := bit_num l[q] p hx
  rw [hbit] at e1
  have e3 : ((l[q] / 2 ^ p : Nat) : Int) = (l[q] : Int) / 2 ^ p := by simp
  rw [e3] at e1
  have hB := Box.new w [.int .u32 (m : Int), .slice (some ⟨b, o, none⟩) 16 c] [.int .u32 0, .slice none 0 0]
  obtain ⟨x, HX⟩ : ∃ x, Hid (l[q] = x) := ⟨_, Lib.hid rfl⟩
  rw [HX.out] at e1 hx hp1 ⊢
  obtain ⟨y, HYY⟩ : ∃ y, Hid (diff x (2 ^ p) = y) := ⟨_, Lib.hid rfl⟩
  rw [HYY.out]
  clear e3 hbit
  go_enter Try.func29, Try.ntmps29
  go_wp2_with fail
  refine (check_any m hm l b o c _ (hl.later (((Below.refl _ _).alloc (Nat.le_refl _) _).alloc (by simp) _)) hn).mono ?_
  rintro e w1 ⟨rfl, hb⟩
  replace hB := hB.later hb
  rw [hc]
  clear hb
  obtain ⟨k1, k2, k3, k4⟩ := hB.cells
  go_wp2_with fail
  refine (member_any m hm _ _ _ _ _).mono ?_
  rintro e w2 ⟨rfl, hb⟩
  replace hB := hB.later hb
  rw [h1]
  clear hb k1 k2 k3 k4
  obtain ⟨k1, k2, k3, k4⟩ := hB.cells
  go_wp2_with fail
  refine (member_any m hm _ _ _ _ _).mono ?_
  rintro e w3 ⟨rfl, hb⟩
  replace hB := hB.later hb
  rw [h2]
  clear hb k1 k2 k3 k4
  obtain ⟨k1, k2, k3, k4⟩ := hB.cells
  have hl3 := hl.later hB.below
  have hp3 := (hl3 q (by omega)).1
  rw [HX.out] at hp3
  have hcl : ∀ j u, (cellsU l)[j]? = some u → w3.cell? ⟨b, o + j, none⟩ = some u := by
    intro j u hu
    have hjl : j < l.length := by have := (List.getElem?_eq_some_iff.1 hu).1; rwa [cellsU_len] at this
    rw [cellsU_get l j hjl] at hu
    rw [(hl3 j hjl).1]; exact hu
  go_wp2_with fail
  refine (clone_all Try.laysSlE041_f31 i0 (.int .u32 0) 1 4 hi hz0 hz1 hz2 rfl (by decide) (by intro w; rfl) GU (fun j u hu => by match j, hu with | 0, hu => exact ⟨0, (Option.some.inj hu).symm⟩) ⟨b, o, none⟩ 16 c (cellsU l) w3 (by decide) (by decide) ⟨by rw [cellsU_len]; omega, fun _ => ⟨b, o, rfl, hcl⟩⟩ ?_ ?_).mono ?_
  · intro u hu
    unfold cellsU at hu
    obtain ⟨x, _, rfl⟩ := List.mem_map.1 hu
    rfl
  · intro j u hu
    have hu := List.mem_of_getElem? hu
    unfold cellsU at hu
    obtain ⟨x, _, rfl⟩ := List.mem_map.1 hu
    exact ⟨_, rfl⟩
  have hbase : w.heap.size + 1 < w3.heap.size := hB.two.lt
  rintro e w4 ⟨v', rfl, hown, hnil, hb⟩
  obtain ⟨r, c', rfl, hr⟩ : ∃ r c', v' = .slice (some ⟨r, 0, none⟩) 16 c' ∧ w3.heap.size ≤ r := by
    rcases hown.2 with ⟨h, _⟩ | ⟨g, cap, cur, h, hg, _⟩
    · exact absurd h hnil
    · exact ⟨g, cap, h, hg⟩
  replace hB := hB.later hb
  clear hb k1 k2 k3 k4 hcl hnil hp3 hl3
  obtain ⟨k1, k2, k3, k4⟩ := hB.cells
  have f1 : w4.frozen? ⟨w.heap.size, 1, none⟩ = false := hB.one.free 1 (.inr (Nat.zero_le _))
  have hB5 : Box w (w4.setCell ⟨w.heap.size, 1, none⟩ (.slice (some ⟨r, 0, none⟩) 16 c')) [.int .u32 (m : Int), .slice (some ⟨r, 0, none⟩) 16 c'] [.int .u32 0, .slice none 0 0] :=
    ⟨hB.one.set 1 _, hB.two.other (by omega) 1 _, hB.below.setCell (p := ⟨w.heap.size, 1, none⟩) (Nat.le_refl _) _⟩
  have hown5 : RowU (w4.setCell ⟨w.heap.size, 1, none⟩ (.slice (some ⟨r, 0, none⟩) 16 c')) w3.heap.size (.slice (some ⟨r, 0, none⟩) 16 c') 16 (cellsU l) := rowU_below hown (a := ⟨w.heap.size, 1, none⟩) (by show w.heap.size < _; omega) _
  have HB5 := Lib.hid hB5
  have HO5 := Lib.hid hown5
  clear hB5 hown5 hown
  go_wp2_with fail
  generalize w4.setCell ⟨w.heap.size, 1, none⟩ (.slice (some ⟨r, 0, none⟩) 16 c') = W5 at *
  have hB5 := HB5.out
  have hown5 := HO5.out
  clear hB k1 k2 k3 k4 f1
  obtain ⟨k1, k2, k3, k4⟩ := hB5.cells
  have hrl := (hown5.lt r rfl).2
  have q1 : W5.cell? ⟨r, q, none⟩ = some (.int .u32 (x : Int)) := by
    rw [hown5.cellAt q (by omega), cellsU_get l q (by omega), HX.out]
  have q2 : W5.frozen? ⟨r, q, none⟩ = false := hown5.frozenAt q
  have hP := one_lt (k := p) (by omega)
  have hw : IntKind.u32.wrap (2 ^ p : Int) = ((2 ^ p : Nat) : Int) := by
    have e : (2 ^ p : Int) = ((2 ^ p : Nat) : Int) := by simp
    rw [e]; exact wraps_u32 _ (Int.natCast_nonneg _) (by rw [show (2 : Int) ^ 32 = ((4294967296 : Nat) : Int) from rfl]; exact Int.ofNat_lt.2 hP)
  have hor := diff_num x (2 ^ p)
  rw [HYY.out] at hor
  generalize hPP : 2 ^ p = P at hw hor hP
  go_region
  have hB6 : Box w (W5.setCell ⟨r, q, none⟩ (.int .u32 (y : Int))).drew [.int .u32 (m : Int), .slice (some ⟨r, 0, none⟩) 16 c'] [.int .u32 0, .slice none 0 0] :=
    ⟨hB5.one.other (by omega) q _, hB5.two.other (by omega) q _, (hB5.below.setCell (p := ⟨r, q, none⟩) (by show w.heap.size ≤ r; omega) _).drew⟩
  have hown6 : RowU (W5.setCell ⟨r, q, none⟩ (.int .u32 (y : Int))).drew w3.heap.size (.slice (some ⟨r, 0, none⟩) 16 c') 16 (cellsU (l.set q y)) := by
    have h := (hown5.stored q (y : Int)).1
    rw [cellsU_set] at h
    exact h
  generalize (W5.setCell ⟨r, q, none⟩ (.int .u32 (y : Int))).drew = W6 at *
  clear hB5 hown5 HB5 HO5 k1 k2 k3 k4 q1 q2 hw hor hrl hPP hP e1 hc h1 hp1
  obtain ⟨k1, k2, k3, k4⟩ := hB6.cells
  have g1 := hB6.two.free 0 (.inr (Nat.zero_le _))
  have g2 := hB6.two.free 1 (.inr (Nat.zero_le _))
  have hT : Blk ((W6.setCell ⟨w.heap.size + 1, 0, none⟩ (.int .u32 (m : Int))).setCell ⟨w.heap.size + 1, 1, none⟩ (.slice (some ⟨r, 0, none⟩) 16 c')) (w.heap.size + 1) [.int .u32 (m : Int), .slice (some ⟨r, 0, none⟩) 16 c'] 46 (0, 0) := (hB6.two.set 0 _).set 1 _
  have hO : RowU ((W6.setCell ⟨w.heap.size + 1, 0, none⟩ (.int .u32 (m : Int))).setCell ⟨w.heap.size + 1, 1, none⟩ (.slice (some ⟨r, 0, none⟩) 16 c')) w3.heap.size (.slice (some ⟨r, 0, none⟩) 16 c') 16 (cellsU (l.set q y)) := rowU_below (rowU_below hown6 (a := ⟨w.heap.size + 1, 0, none⟩) hbase _) (a := ⟨w.heap.size + 1, 1, none⟩) hbase _
  have hW : Below w.heap.size w ((W6.setCell ⟨w.heap.size + 1, 0, none⟩ (.int .u32 (m : Int))).setCell ⟨w.heap.size + 1, 1, none⟩ (.slice (some ⟨r, 0, none⟩) 16 c')) := (hB6.below.setCell (p := ⟨w.heap.size + 1, 0, none⟩) (Nat.le_succ _) _).setCell (p := ⟨w.heap.size + 1, 1, none⟩) (Nat.le_succ _) _
  have y1 := hT.cell 0
  have y2 := hT.cell 1
  simp only [List.getElem?_cons_zero, List.getElem?_cons_succ] at y1 y2
  have HO := Lib.hid (RowU.mono hO (show w.heap.size ≤ w3.heap.size by omega))
  clear hown6 hO
  go_wp2_with fail
  refine bodyPost_ret (v := .tuple #[.agg #[.int .u32 (m : Int), .slice (some ⟨r, 0, none⟩) 16 c'], .int .i64 0]) ?_ rfl ⟨r, c', rfl, hW, HO.out⟩
  unfold results
  rw [show Try.f29.results = #[.cell 6 46, .tmp 7] from rfl]
  go_simp
end Go.Proofs.Ytclobldldddjnaa.Vote.Own
