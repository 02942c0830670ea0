/-
  link: Equal of texts, within. (Printed by bin/link.py.)
-/
import Derived.Test.YtfabhinehfhndaaLnk
import Derived.Test.YtfabhinehfhndaaFnc
import Derived.Test.YtfabhinehfhndaaEql
import Derived.Test.YtfabhinehfhndaaByt
set_option linter.unusedVariables false
set_option linter.unusedSimpArgs false
namespace Go.Proofs.Ytfabhinehfhndaa
open Go.RowKit

theorem LnC_sz_string : Sz Try.prog 9 1 := fun _ => by kernel_rfl
theorem LnC_ag_string : Ag Try.prog 9 false := fun _ => by kernel_rfl
theorem LnC_ag_int : Ag Try.prog 3 false := fun _ => by kernel_rfl
theorem LnC_en_link_within : Enters Try.prog 56 := en Try.func56 (by kernel_rfl) (by kernel_rfl)
theorem LnC_sz_int : Sz Try.prog 3 1 := fun _ => by kernel_rfl
theorem LnC_en_slices_IndexFunc_S_int_int_ : Enters Try.prog 88 := en Try.func88 (by kernel_rfl) (by kernel_rfl)
theorem LnC_en_link_all_1 : Enters Try.prog 71 := en Try.func71 (by kernel_rfl) (by kernel_rfl)
theorem LnC_en_slices_ContainsFunc_S_int_int_ : Enters Try.prog 70 := en Try.func70 (by kernel_rfl) (by kernel_rfl)
theorem any_out {l : List Int} {lo hi : Int} : l.all (fun n => inB n lo hi) = !(l.any fun n => !inB n lo hi) := by
  induction l with
  | nil => rfl
  | cons x l ih => rw [List.all_cons, List.any_cons, ih]; cases inB x lo hi <;> simp
set_option maxRecDepth 100000 in
set_option maxHeartbeats 400000 in
theorem equal_S (A B : Option Addr) (c d b1 b2 : Nat) (l m : List ByteArray) (w : World) (h1 : repS.SHas b1 w A c l) (h2 : repS.SHas b2 w B d m) :
    Calls Try.prog 28 #[.slice A l.length c, .slice B m.length d] w (fun e w' => e = .returned (.bool (decide (l = m))) ∧ Ext w w') := by
  have hle := h1.len_le
  refine calls_W (n := 26) Try.func28 rfl rfl rfl ?_
  refine sq <| rg <| vl (as_ rfl) rfl <| nl <| nT <| sq <| sq <| rg <| vl (mv rfl) rfl <| vl (ln Try.underlying53 rfl) rfl <| vl (mv rfl) rfl <| vl (ln Try.underlying53 rfl) rfl <| vl (bne rfl rfl) rfl <| nl <| nT <| ?_
  refine cne rfl (fun h_1 => ?_) (fun h_1 => ?_)
  · refine sq <| rg <| vl (as_ rfl) rfl <| nl <| nT <| rt <| tT <| tR (.tmp rfl .nil) <| ?_
    rw [decide_eq_false (fun e => h_1 (by rw [e]))]
    exact ⟨rfl, (Ext.rf w)⟩
  · refine sk <| nT <| sq <| sq <| rg <| vl (mv rfl) rfl <| vl (ln Try.underlying53 rfl) rfl <| vl (mv rfl) rfl <| nl <| nT <| bk <| ?_
    refine lp (fun mI EI wI => ∃ k : Nat, EI = [(0, .slice A l.length c), (1, .slice B m.length d), (12, .int .i64 (l.length : Int)), (13, .int .i64 (k : Int))] ∧ mI = l.length - k ∧ Ext w wI ∧ (k ≤ l.length) ∧ (∀ j, j < k → l[j]? = m[j]?)) _ _ ⟨0, rfl, rfl, (Ext.rf w), by omega, fun j hj => absurd hj (by omega)⟩ (.cons rfl (.cons rfl (.cons rfl (.cons (loI rfl (by first | omega | rfl | (simp <;> omega))) .nil)))) ?_
    rintro m_3 E_4 w_2 ⟨k, rfl, rfl, z_2, hk, hk2⟩
    have q_5 := z_2.size
    have hle := h1.len_le
    have hle2 := h2.len_le
    refine sq <| rg <| vl (blt rfl rfl) rfl <| nl <| nT <| sq <| ?_
    refine clt rfl (fun h_6 => ?_) (fun h_6 => ?_)
    · obtain ⟨x1, hx1⟩ := get_of (l := l) (i := k) (by omega)
      obtain ⟨y1, hy1⟩ := get_of (l := m) (i := k) (by omega)
      refine sk <| nT <| sq <| bk <| sq <| rg <| vl (mv rfl) rfl <| vl (as_ rfl) rfl <| nl <| nT <| sq <| ?_
      refine rd [(3, 0), (7, 0)] [0, 1, 2, 3, 4, 5, 6, 7, 8] (by kernel_rfl) (by kernel_rfl) ?_
      refine fw rfl rfl (fun _ => mv rfl) rfl <| fw rfl rfl (fun _ => mv rfl) rfl <| fw rfl rfl (fun _ => iA k Try.underlying53 LnC_sz_string rfl rfl ((h1.keep z_2).adr (Nat.zero_lt_of_lt (show k < _ from (by omega)))) rfl (by omega)) rfl <| fq rfl rfl (fun _ x => ld rfl (Rep.SHas.one' hcS ((h1.keep (Ext.tr z_2 x)).adh (Nat.zero_lt_of_lt (show k < _ from (by omega)))) hx1 rfl LnC_ag_string)) rfl <| fw rfl rfl (fun _ => mv rfl) rfl <| fw rfl rfl (fun _ => mv rfl) rfl <| fw rfl rfl (fun _ => iA k Try.underlying53 LnC_sz_string rfl rfl ((h2.keep z_2).adr (Nat.zero_lt_of_lt (show k < _ from (by omega)))) rfl (by omega)) rfl <| fq rfl rfl (fun _ x => ld rfl (Rep.SHas.one' hcS ((h2.keep (Ext.tr z_2 x)).adh (Nat.zero_lt_of_lt (show k < _ from (by omega)))) hy1 rfl LnC_ag_string)) rfl <| fw rfl rfl (fun _ => bnT Try.underlying9 rfl rfl) rfl <| fn fun w_7 x_8 => ?_
      have q_9 := x_8.size
      have z_7 := Ext.tr z_2 x_8
      refine nT <| ?_
      refine cb rfl (fun h_10 => ?_) (fun h_10 => ?_)
      · refine sq <| rg <| vl (as_ rfl) rfl <| nl <| nT <| rt <| tB <| tT <| tK <| tB <| tT <| tR (.tmp rfl .nil) <| ?_
        rw [decide_eq_false (fun e => by rw [e, hy1] at hx1; injection hx1 with hx1; exact absurd hx1.symm (by first | exact ne_of_nb h_10 | exact h_10))]
        exact ⟨rfl, z_7⟩
      · refine sk <| nB <| nT <| rg <| vl (bad rfl rfl (inI (by omega))) rfl <| vl (mv rfl) rfl <| nl <| ?_
        exact nI _ _ ⟨k + 1, rfl, rfl, z_7, by omega, lt_succ_all hk2 (by rw [hx1, hy1, (by first | exact eq_of_nb h_10 | exact h_10 : x1 = y1)])⟩ (by omega) (.cons rfl (.cons rfl (.cons rfl (.cons (loI rfl (by first | omega | rfl | (simp <;> omega))) .nil))))
    · refine xt <| xT <| xK <| xB <| nT <| sq <| rg <| vl (as_ rfl) rfl <| nl <| nT <| rt <| tR (.tmp rfl .nil) <| ?_
      rw [decide_eq_true (eq_all (by omega) (by omega) hk2)]
      exact ⟨rfl, z_2⟩
set_option maxRecDepth 100000 in
set_option maxHeartbeats 400000 in
theorem lwithin_any (n lo hi : Int) (w : World) :
    Calls Try.prog 56 #[.int .i64 n, .int .i64 lo, .int .i64 hi] w (fun e w' => e = .returned (.bool (inB n lo hi)) ∧ Ext w w') := by
  refine calls_W (n := 15) Try.func56 rfl rfl rfl ?_
  refine sq <| rg <| vl (as_ rfl) rfl <| nl <| nT <| sq <| rg <| vl (mv rfl) rfl <| vl (mv rfl) rfl <| vl (bge rfl rfl) rfl <| vl (mv rfl) rfl <| vQ rfl rfl rfl rfl (fun hc => mv rfl) rfl <| vQ rfl rfl rfl rfl (fun hc => mv rfl) rfl <| vQ rfl rfl rfl rfl (fun hc => ble (gt hc rfl) (gt hc rfl)) rfl <| vl (pA rfl rfl rfl rfl) rfl <| vl (as_ rfl) rfl <| nl <| nT <| rt <| tR (.tmp rfl .nil) <| ?_
  exact ⟨rfl, (Ext.rf w)⟩
set_option maxRecDepth 100000 in
set_option maxHeartbeats 400000 in
theorem lout_any (n lo hi : Int) (b4 b5 : Nat) (w : World) (H4 : Blk w b4 [.int .i64 lo] 3 (0, 0)) (H5 : Blk w b5 [.int .i64 hi] 3 (0, 0)) :
    Calls Try.prog 71 #[.int .i64 n, .pointer (some ⟨b4, 0, none⟩), .pointer (some ⟨b5, 0, none⟩)] w (fun e w' => e = .returned (.bool (!inB n lo hi)) ∧ Ext w w') := by
  have q4 := H4.lt
  have q5 := H5.lt
  refine calls_W (n := 10) Try.func71 rfl rfl rfl ?_
  refine sq <| rg <| vl (as_ rfl) rfl <| nl <| nT <| sq <| rg <| vl (mv rfl) rfl <| vl (ld rfl (H4.one LnC_ag_int rfl)) rfl <| vl (ld rfl (H5.one LnC_ag_int rfl)) rfl <| ca LnC_en_link_within rfl rfl ((lwithin_any n lo hi _).mono ?_)
  rintro e w_1 ⟨rfl, x_2⟩
  refine ⟨_, rfl, ?_⟩
  have q_3 := x_2.size
  have z_1 := Ext.tr (Ext.rf w) x_2
  refine vl (nt rfl) rfl <| vl (as_ rfl) rfl <| nl <| nT <| rt <| tR (.tmp rfl .nil) <| ?_
  exact ⟨rfl, z_1⟩
set_option maxRecDepth 100000 in
set_option maxHeartbeats 400000 in
theorem idxF_LZ (fC : FuncId) (cs : List Value) (p : Int → Bool) (A : Option Addr) (c : Nat) (l : List Int) (w : World) (hl : repI.SHas 8 w A c l) (hE : Enters Try.prog fC) (hC : ∀ x ∈ l, ∀ w', Ext w w' → Calls Try.prog fC (([.int .i64 x] : List Value) ++ cs).toArray w' fun e w'' => e = .returned (.bool (p x)) ∧ Ext w' w'') :
    Calls Try.prog 88 #[.slice A l.length c, .func (.func fC) #[] cs.toArray] w (fun e w' => e = .returned (.int .i64 (idxI p l)) ∧ Ext w w') := by
  have hll := hl.len_le
  refine calls_W (n := 19) Try.func88 rfl rfl rfl ?_
  refine sq <| rg <| vl (as_ rfl) rfl <| nl <| nT <| sq <| sq <| rg <| vl (mv rfl) rfl <| vl (ln Try.underlying38 rfl) rfl <| vl (mv rfl) rfl <| nl <| nT <| bk <| ?_
  refine lp (fun mI EI wI => ∃ k : Nat, EI = [(0, .slice A l.length c), (1, .func (.func fC) #[] cs.toArray), (7, .int .i64 (l.length : Int)), (8, .int .i64 (k : Int))] ∧ mI = l.length - k ∧ Ext w wI ∧ (k ≤ l.length) ∧ (∀ i, i < k → p (l.getD i 0) = false)) _ _ ⟨0, rfl, rfl, (Ext.rf w), by omega, fun i hi => by omega⟩ (.cons rfl (.cons rfl (.cons rfl (.cons (loI rfl (by first | omega | rfl | (simp <;> omega))) .nil)))) ?_
  rintro m_2 E_3 w_1 ⟨k, rfl, rfl, z_1, hk, hg⟩
  have q_4 := z_1.size
  refine sq <| rg <| vl (blt rfl rfl) rfl <| nl <| nT <| sq <| ?_
  refine clt rfl (fun h_5 => ?_) (fun h_5 => ?_)
  · refine sk <| nT <| sq <| bk <| sq <| rg <| vl (mv rfl) rfl <| vl (as_ rfl) rfl <| nl <| nT <| sq <| rg <| vl (mv rfl) rfl <| vl (mv rfl) rfl <| vl (mv rfl) rfl <| vl (iA k Try.underlying38 LnC_sz_int rfl rfl ((hl.keep z_1).adr (Nat.zero_lt_of_lt (show k < _ from (by omega)))) rfl (by omega)) rfl <| vl (ld rfl (Rep.SHas.one' hcI ((hl.keep z_1).adh (Nat.zero_lt_of_lt (show k < _ from (by omega)))) (get_d (l := l) (u := 0) (by omega)) rfl LnC_ag_int)) rfl <| cv hE rfl rfl rfl ((hC (l.getD k 0) (mem_dd (by omega)) _ z_1).mono ?_)
    rintro e w_6 ⟨rfl, x_7⟩
    refine ⟨_, rfl, ?_⟩
    have q_8 := x_7.size
    have z_6 := Ext.tr z_1 x_7
    refine nl <| nT <| ?_
    refine cb rfl (fun h_9 => ?_) (fun h_9 => ?_)
    · refine sq <| rg <| vl (mv rfl) rfl <| vl (as_ rfl) rfl <| nl <| nT <| rt <| tB <| tT <| tK <| tB <| tT <| tR (.tmp rfl .nil) <| ?_
      exact ⟨by have e := idx_some_dd (p := p) (l := l) (d := 0) (k := k) (by omega) h_9 hg; rw [e]; rfl, z_6⟩
    · refine sk <| nB <| nT <| rg <| vl (bad rfl rfl (inI (by omega))) rfl <| vl (mv rfl) rfl <| nl <| ?_
      exact nI _ _ ⟨k + 1, rfl, rfl, z_6, by omega, lt_succ_all hg h_9⟩ (by omega) (.cons rfl (.cons rfl (.cons rfl (.cons (loI rfl (by first | omega | rfl | (simp <;> omega))) .nil))))
  · refine xt <| xT <| xK <| xB <| nT <| sq <| rg <| vl (as_ rfl) rfl <| nl <| nT <| rt <| tR (.tmp rfl .nil) <| ?_
    exact ⟨by have e := idx_none_dd (p := p) (l := l) (d := 0) (fun i hi => hg i (by omega)); rw [e]; rfl, z_1⟩
set_option maxRecDepth 100000 in
set_option maxHeartbeats 400000 in
theorem hasF_LZ (fC : FuncId) (cs : List Value) (p : Int → Bool) (A : Option Addr) (c : Nat) (l : List Int) (w : World) (hl : repI.SHas 8 w A c l) (hE : Enters Try.prog fC) (hC : ∀ x ∈ l, ∀ w', Ext w w' → Calls Try.prog fC (([.int .i64 x] : List Value) ++ cs).toArray w' fun e w'' => e = .returned (.bool (p x)) ∧ Ext w' w'') :
    Calls Try.prog 70 #[.slice A l.length c, .func (.func fC) #[] cs.toArray] w (fun e w' => e = .returned (.bool (l.any p)) ∧ Ext w w') := by
  refine calls_W (n := 9) Try.func70 rfl rfl rfl ?_
  refine sq <| rg <| vl (as_ rfl) rfl <| nl <| nT <| sq <| rg <| vl (mv rfl) rfl <| vl (mv rfl) rfl <| ca LnC_en_slices_IndexFunc_S_int_int_ rfl rfl ((idxF_LZ fC cs p _ _ l _ (hl.keep (Ext.rf w)) hE (fun x hx w' h => hC x hx w' (Ext.tr (Ext.rf w) h))).mono ?_)
  rintro e w_1 ⟨rfl, x_2⟩
  refine ⟨_, rfl, ?_⟩
  have q_3 := x_2.size
  have z_1 := Ext.tr (Ext.rf w) x_2
  refine vl (bge rfl rfl) rfl <| vl (as_ rfl) rfl <| nl <| nT <| rt <| tR (.tmp rfl .nil) <| ?_
  exact ⟨by rw [idxI_any]; rfl, z_1⟩
set_option maxRecDepth 100000 in
set_option maxHeartbeats 400000 in
theorem lall_any (A : Option Addr) (c : Nat) (l : List Int) (lo hi : Int) (w : World) (hl : repI.SHas 8 w A c l) :
    Calls Try.prog 57 #[.slice A l.length c, .int .i64 lo, .int .i64 hi] w (fun e w' => e = .returned (.bool (l.all (fun n => inB n lo hi))) ∧ Ext w w') := by
  refine calls_W (n := 11) Try.func57 rfl rfl rfl ?_
  refine sq <| rg <| bx rfl rfl rfl rfl fun w_1 b_2 x_3 l_4 B_5 => ?_
  have q_6 := x_3.size
  have z_1 := Ext.tr (Ext.rf w) x_3
  have q_7 := B_5.lt
  refine bx rfl rfl rfl rfl fun w_8 b_9 x_10 l_11 B_12 => ?_
  have q_13 := x_10.size
  have z_8 := Ext.tr z_1 x_10
  have q_14 := B_12.lt
  refine vl (as_ rfl) rfl <| nl <| nT <| sq <| rg <| vl (mv rfl) rfl <| vl (mf rfl rfl) rfl <| ?_
  have B_5 := B_5.later x_10
  refine ca LnC_en_slices_ContainsFunc_S_int_int_ rfl rfl ((hasF_LZ 71 [.pointer (some ⟨b_2, 0, none⟩), .pointer (some ⟨b_9, 0, none⟩)] (fun n => !inB n lo hi) _ _ l _ (hl.keep z_8) LnC_en_link_all_1 (fun x hx w' h => lout_any x lo hi b_2 b_9 w' (B_5.later h) (B_12.later h))).mono ?_)
  rintro e w_15 ⟨rfl, x_16⟩
  refine ⟨_, rfl, ?_⟩
  have q_17 := x_16.size
  have z_15 := Ext.tr z_8 x_16
  refine vl (nt rfl) rfl <| vl (as_ rfl) rfl <| nl <| nT <| rt <| tR (.tmp rfl .nil) <| ?_
  exact ⟨by rw [any_out]; rfl, z_15⟩
end Go.Proofs.Ytfabhinehfhndaa
