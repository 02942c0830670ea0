import Derived.Test.YtffjpfpbpnhmcaaWOwn2
import Derived.Test.YtffjpfpbpnhmcaaGol
import Derived.Test.YtffjpfpbpnhmcaaHitS
import Derived.Test.YtffjpfpbpnhmcaaGoodP
import Derived.Test.YtffjpfpbpnhmcaaAsp
import Derived.Test.YtffjpfpbpnhmcaaTroF
import Derived.Laws.IdiomStrings
import Derived.Laws.Strings
import Derived.Test.YtffjpfpbpnhmcaaShelf
set_option linter.unusedVariables false
set_option linter.unusedSimpArgs false
namespace Go.Proofs.Ytffjpfpbpnhmcaa
open Go.RowKit

theorem IdI_sz_int : Sz Try.prog 3 1 := fun _ => by kernel_rfl
theorem IdI_ag_int : Ag Try.prog 3 false := fun _ => by kernel_rfl
theorem IdI_en_slices_Index_S_int_int_ : Enters Try.prog 70 := en Try.func70 (by kernel_rfl) (by kernel_rfl)
theorem idx_none_d {α : Type} [Inhabited α] {p : α → Bool} {l : List α} (h : ∀ i, i < l.length → p (l.getD i default) = false) : idxI p l = -1 :=
  idxI_none fun j hj => by have := h j hj; rwa [List.getD_eq_getElem?_getD, List.getElem?_eq_getElem hj] at this
theorem idx_some_d {α : Type} [Inhabited α] {p : α → Bool} {l : List α} {k : Nat} (hk : k < l.length) (h1 : p (l.getD k default) = true) (h : ∀ i, i < k → p (l.getD i default) = false) : idxI p l = (k : Int) :=
  idxI_some hk (by rwa [List.getD_eq_getElem?_getD, List.getElem?_eq_getElem hk] at h1) fun j hj => by have := h j hj; rwa [List.getD_eq_getElem?_getD, List.getElem?_eq_getElem (by omega : j < l.length)] at this
set_option maxRecDepth 100000 in
set_option maxHeartbeats 400000 in
theorem index_I (x : Int) (A : Option Addr) (c : Nat) (l : List Int) (w : World) (hl : repI.SHas 8 w A c l) :
    Calls Try.prog 70 #[.slice A l.length c, .int .i64 x] w (fun e w' => e = .returned (.int .i64 (idxI (fun y => x == y) l)) ∧ Ext w w') := by
  have hll := hl.len_le
  refine calls_W (n := 19) Try.func70 rfl rfl rfl ?_
  refine sq <| rg <| vl (as_ rfl) rfl <| nl <| nT <| sq <| sq <| rg <| vl (mv rfl) rfl <| vl (ln Try.underlying22 rfl) rfl <| vl (mv rfl) rfl <| nl <| nT <| bk <| ?_
  refine lp (fun mI EI wI => ∃ k : Nat, EI = [(0, .slice A l.length c), (1, .int .i64 x), (7, .int .i64 (l.length : Int)), (8, .int .i64 (k : Int))] ∧ mI = l.length - k ∧ Ext w wI ∧ (k ≤ l.length) ∧ (∀ i, i < k → ((fun y => x == y)) (l.getD i 0) = false)) _ _ ⟨0, rfl, rfl, (Ext.rf w), by omega, fun i hi => by omega⟩ (.cons rfl (.cons rfl (.cons rfl (.cons (loI rfl (by first | omega | rfl | (simp <;> omega))) .nil)))) ?_
  rintro m_2 E_3 w_1 ⟨k, rfl, rfl, z_1, hk, hg⟩
  have q_4 := z_1.size
  refine sq <| rg <| vl (blt rfl rfl) rfl <| nl <| nT <| sq <| ?_
  refine clt rfl (fun h_5 => ?_) (fun h_5 => ?_)
  · refine sk <| nT <| sq <| bk <| sq <| rg <| vl (mv rfl) rfl <| vl (as_ rfl) rfl <| nl <| nT <| sq <| rg <| vl (mv rfl) rfl <| vl (mv rfl) rfl <| vl (mv rfl) rfl <| vl (iA k Try.underlying22 IdI_sz_int rfl rfl ((hl.keep z_1).adr (Nat.zero_lt_of_lt (show k < _ from (by omega)))) rfl (by omega)) rfl <| vl (ld rfl (Rep.SHas.one' hcI ((hl.keep z_1).adh (Nat.zero_lt_of_lt (show k < _ from (by omega)))) (get_d (l := l) (u := 0) (by omega)) rfl IdI_ag_int)) rfl <| vl (beq rfl rfl) rfl <| nl <| nT <| ?_
    refine ceq rfl (fun h_6 => ?_) (fun h_6 => ?_)
    · refine sq <| rg <| vl (mv rfl) rfl <| vl (as_ rfl) rfl <| nl <| nT <| rt <| tB <| tT <| tK <| tB <| tT <| tR (.tmp rfl .nil) <| ?_
      exact ⟨by have e := idx_some_d (p := (fun y => x == y)) (l := l) (k := k) (by omega) (by simpa using h_6) hg; rw [e]; rfl, z_1⟩
    · refine sk <| nB <| nT <| rg <| vl (bad rfl rfl (inI (by omega))) rfl <| vl (mv rfl) rfl <| nl <| ?_
      exact nI _ _ ⟨k + 1, rfl, rfl, z_1, by omega, lt_succ_all hg (by simpa using h_6)⟩ (by omega) (.cons rfl (.cons rfl (.cons rfl (.cons (loI rfl (by first | omega | rfl | (simp <;> omega))) .nil))))
  · refine xt <| xT <| xK <| xB <| nT <| sq <| rg <| vl (as_ rfl) rfl <| nl <| nT <| rt <| tR (.tmp rfl .nil) <| ?_
    exact ⟨by have e := idx_none_d (p := (fun y => x == y)) (l := l) (fun i hi => hg i (by omega)); rw [e]; rfl, z_1⟩
set_option maxRecDepth 100000 in
set_option maxHeartbeats 400000 in
theorem contains_I (x : Int) (A : Option Addr) (c : Nat) (l : List Int) (w : World) (hl : repI.SHas 8 w A c l) :
    Calls Try.prog 36 #[.slice A l.length c, .int .i64 x] w (fun e w' => e = .returned (.bool (l.any (fun y => x == y))) ∧ Ext w w') := by
  refine calls_W (n := 9) Try.func36 rfl rfl rfl ?_
  refine sq <| rg <| vl (as_ rfl) rfl <| nl <| nT <| sq <| rg <| vl (mv rfl) rfl <| vl (mv rfl) rfl <| ca IdI_en_slices_Index_S_int_int_ rfl rfl ((index_I x _ _ l _ (hl.keep (Ext.rf w))).mono ?_)
  rintro e w_1 ⟨rfl, x_2⟩
  refine ⟨_, rfl, ?_⟩
  have q_3 := x_2.size
  have z_1 := Ext.tr (Ext.rf w) x_2
  refine vl (bge rfl rfl) rfl <| vl (as_ rfl) rfl <| nl <| nT <| rt <| tR (.tmp rfl .nil) <| ?_
  exact ⟨by rw [idxI_any]; rfl, z_1⟩
end Go.Proofs.Ytffjpfpbpnhmcaa
set_option linter.unusedVariables false
set_option linter.unusedSimpArgs false
namespace Go.Proofs.Ytffjpfpbpnhmcaa
open Go.RowKit

theorem HitL_ag_int : Ag Try.prog 3 false := fun _ => by kernel_rfl
theorem HitL_en_cmp_isNaN_int_ : Enters Try.prog 94 := en Try.func94 (by kernel_rfl) (by kernel_rfl)
theorem HitL_sz_int : Sz Try.prog 3 1 := fun _ => by kernel_rfl
theorem HitL_en_cmp_Less_int_ : Enters Try.prog 69 := en Try.func69 (by kernel_rfl) (by kernel_rfl)
theorem ret_false {b : Bool} (h : b = false) : Ending.returned (.bool b) = Ending.returned (.bool false) := by rw [h]
def trOfD (l : List Trp) (x : Int) : Option Trp := l.find? fun t => t.id == x
def trOfV (l : List Trp) (x : Int) : Value := .tuple #[.agg ((trOfD l x).getD default).cells.toArray, .bool (trOfD l x).isSome]
def sortedI (l : List Int) : Bool := (List.range (l.length - 1)).all fun i => !decide (l.getD (i + 1) 0 < l.getD i 0)
theorem sorted_yes {l : List Int} (h : ∀ i, i + 1 < l.length → ¬ l.getD (i + 1) 0 < l.getD i 0) : sortedI l = true := by
  unfold sortedI
  rw [List.all_eq_true]
  intro i hi
  have := h i (by have := List.mem_range.1 hi; omega)
  simpa using this
theorem sorted_no {l : List Int} {i : Nat} (hi : i + 1 < l.length) (h : l.getD (i + 1) 0 < l.getD i 0) : sortedI l = false := by
  unfold sortedI
  rw [List.all_eq_false]
  exact ⟨i, List.mem_range.2 (by omega), by rw [decide_eq_true h]; decide⟩
/-- So many from both ends have changed their places. -/
def revN {α : Type} (l : List α) (k : Nat) : List α := l.mapIdx fun i x => if i < k ∨ l.length - k ≤ i then (l[l.length - 1 - i]?).getD x else x
set_option maxRecDepth 100000 in
set_option maxHeartbeats 400000 in
theorem isNaN_I (n : Int) (w : World) :
    Calls Try.prog 94 #[.int .i64 n] w (fun e w' => e = .returned (.bool false) ∧ Ext w w') := by
  refine calls_W (n := 6) Try.func94 rfl rfl rfl ?_
  refine sq <| rg <| vl (as_ rfl) rfl <| nl <| nT <| sq <| rg <| vl (mv rfl) rfl <| vl (mv rfl) rfl <| vl (bne rfl rfl) rfl <| vl (as_ rfl) rfl <| nl <| nT <| rt <| tR (.tmp rfl .nil) <| ?_
  exact ⟨ret_false (by simp), (Ext.rf w)⟩
set_option maxRecDepth 100000 in
set_option maxHeartbeats 400000 in
theorem less_I (n m : Int) (w : World) :
    Calls Try.prog 69 #[.int .i64 n, .int .i64 m] w (fun e w' => e = .returned (.bool (decide (n < m))) ∧ Ext w w') := by
  refine calls_W (n := 17) Try.func69 rfl rfl rfl ?_
  refine sq <| rg <| vl (as_ rfl) rfl <| nl <| nT <| sq <| rg <| vl (mv rfl) rfl <| ca HitL_en_cmp_isNaN_int_ rfl rfl ((isNaN_I n _).mono ?_)
  rintro e w_1 ⟨rfl, x_2⟩
  refine ⟨_, rfl, ?_⟩
  have q_3 := x_2.size
  have z_1 := Ext.tr (Ext.rf w) x_2
  refine vl (mv rfl) rfl <| vQ (v := undef) rfl rfl rfl rfl (fun hc => nomatch hc) rfl <| vQ (v := undef) rfl rfl rfl rfl (fun hc => nomatch hc) rfl <| vQ (v := undef) rfl rfl rfl rfl (fun hc => nomatch hc) rfl <| vl (pkF rfl rfl) rfl <| vl (mv rfl) rfl <| ug rfl rfl rfl <| vl (mv rfl) rfl <| ug rfl rfl rfl <| vl (mv rfl) rfl <| ug rfl rfl rfl <| vl (blt rfl rfl) rfl <| vl (pkF rfl rfl) rfl <| vl (as_ rfl) rfl <| nl <| nT <| rt <| tR (.tmp rfl .nil) <| ?_
  exact ⟨rfl, z_1⟩
set_option maxRecDepth 100000 in
set_option maxHeartbeats 400000 in
theorem isSorted_I (A : Option Addr) (c : Nat) (l : List Int) (w : World) (hl : repI.SHas 8 w A c l) :
    Calls Try.prog 35 #[.slice A l.length c] w (fun e w' => e = .returned (.bool (sortedI l)) ∧ Ext w w') := by
  have hll := hl.len_le
  refine calls_W (n := 21) Try.func35 rfl rfl rfl ?_
  refine sq <| rg <| vl (as_ rfl) rfl <| nl <| nT <| sq <| sq <| rg <| vl (mv rfl) rfl <| vl (ln Try.underlying22 rfl) rfl <| vl (bsu rfl rfl (inI (by omega))) rfl <| vl (as_ rfl) rfl <| nl <| nT <| bk <| ?_
  refine lp (fun mI EI wI => ∃ k : Nat, ∃ j : Int, EI = [(0, .slice A l.length c), (3, .int .i64 j)] ∧ mI = l.length - k ∧ Ext w wI ∧ (k ≤ l.length ∧ j = (l.length : Int) - 1 - k) ∧ (∀ i, j.toNat ≤ i → i + 1 < l.length → ¬ l.getD (i + 1) 0 < l.getD i 0)) _ _ ⟨0, (l.length : Int) - 1, rfl, rfl, (Ext.rf w), ⟨by omega, by omega⟩, fun i hi hj => by omega⟩ (.cons rfl (.cons (loI rfl (by first | omega | rfl | (simp <;> omega))) .nil)) ?_
  rintro m_2 E_3 w_1 ⟨k, j, rfl, rfl, z_1, hk, hg⟩
  have q_4 := z_1.size
  refine sq <| sq <| rg <| vl (mv rfl) rfl <| vl (bgt rfl rfl) rfl <| nl <| nT <| ?_
  refine clt rfl (fun h_5 => ?_) (fun h_5 => ?_)
  · refine sk <| nT <| sq <| bk <| sq <| ?_
    refine rd [(3, 0), (8, 0), (9, 0)] [0, 1, 2, 3, 4, 5, 6, 7, 8, 9] (by kernel_rfl) (by kernel_rfl) ?_
    refine fw rfl rfl (fun _ => mv rfl) rfl <| fw rfl rfl (fun _ => mv rfl) rfl <| fw rfl rfl (fun _ => iA j.toNat Try.underlying22 HitL_sz_int rfl rfl ((hl.keep z_1).adr (Nat.zero_lt_of_lt (show j.toNat < _ from (by omega)))) (by omega) (by omega)) rfl <| fq rfl rfl (fun _ x => ld rfl (Rep.SHas.one' hcI ((hl.keep (Ext.tr z_1 x)).adh (Nat.zero_lt_of_lt (show j.toNat < _ from (by omega)))) (get_d (l := l) (u := 0) (by omega)) rfl HitL_ag_int)) rfl <| fw rfl rfl (fun _ => mv rfl) rfl <| fw rfl rfl (fun _ => mv rfl) rfl <| fw rfl rfl (fun _ => bsu rfl rfl (inI (by omega))) rfl <| fw rfl rfl (fun _ => iA ((j - 1).toNat) Try.underlying22 HitL_sz_int rfl rfl ((hl.keep z_1).adr (Nat.zero_lt_of_lt (show (j - 1).toNat < _ from (by omega)))) (by omega) (by omega)) rfl <| fq rfl rfl (fun _ x => ld rfl (Rep.SHas.one' hcI ((hl.keep (Ext.tr z_1 x)).adh (Nat.zero_lt_of_lt (show (j - 1).toNat < _ from (by omega)))) (get_d (l := l) (u := 0) (by omega)) rfl HitL_ag_int)) rfl <| fc rfl rfl HitL_en_cmp_Less_int_ rfl (fun _ x => less_I (l.getD j.toNat 0) (l.getD ((j - 1).toNat) 0) _) rfl <| fn fun w_6 x_7 => ?_
    have q_8 := x_7.size
    have z_6 := Ext.tr z_1 x_7
    refine nT <| ?_
    refine clt rfl (fun h_9 => ?_) (fun h_9 => ?_)
    · refine sq <| rg <| vl (as_ rfl) rfl <| nl <| nT <| rt <| tB <| tT <| tK <| tB <| tT <| tR (.tmp rfl .nil) <| ?_
      exact ⟨by rw [sorted_no (i := (j - 1).toNat) (by omega) (by rw [show (j - 1).toNat + 1 = j.toNat by omega]; exact h_9)]; rfl, z_6⟩
    · refine sk <| nB <| nT <| rg <| vl (mv rfl) rfl <| vl (bsu rfl rfl (inI (by omega))) rfl <| vl (as_ rfl) rfl <| nl <| ?_
      exact nI _ _ ⟨k + 1, j - 1, rfl, rfl, z_6, ⟨by omega, by omega⟩, fun i hi hj => if e : i = (j - 1).toNat then (by have h2 := h_9; rw [show j.toNat = i + 1 by omega, ← e] at h2; exact h2) else hg i (by omega) hj⟩ (by omega) (.cons rfl (.cons (loI rfl (by first | omega | rfl | (simp <;> omega))) .nil))
  · refine xt <| xT <| xK <| xB <| nT <| sq <| rg <| vl (as_ rfl) rfl <| nl <| nT <| rt <| tR (.tmp rfl .nil) <| ?_
    exact ⟨by rw [sorted_yes fun i hi => hg i (by omega) hi]; rfl, z_1⟩
end Go.Proofs.Ytffjpfpbpnhmcaa
set_option linter.unusedVariables false
set_option linter.unusedSimpArgs false
namespace Go.Proofs.Ytffjpfpbpnhmcaa
open Go.RowKit

def hurts (W : Wd) (l : List Blw) : List Trp := (List.range W.troops.length).map (hurt W.troops (harmW W l))
structure Struck (W : Wd) (l : List Blw) : Prop where
  good : Good W
  hW : struckW W l = { W with troops := (hurts W l).filter fun t => decide (0 < t.life) }
  hG : struckG W l = ((hurts W l).filter fun t => !decide (0 < t.life)).map Trp.id
  harm : ∀ k, 0 ≤ (harmW W l).getD k 0
  hl : (harmW W l).length = W.troops.length
theorem hurts_len (W : Wd) (l : List Blw) : (hurts W l).length = W.troops.length := by simp [hurts]
theorem hurts_get {W : Wd} {l : List Blw} {k : Nat} {t : Trp} (h : W.troops[k]? = some t) : (hurts W l)[k]? = some { t with life := t.life - (harmW W l).getD k 0 } := by
  have hk := (List.getElem?_eq_some_iff.1 h).1
  unfold hurts
  rw [List.getElem?_map, List.getElem?_range hk, Option.map_some]
  unfold hurt
  rw [getD_of h]
theorem Struck.pw {W : Wd} {l : List Blw} (h : Struck W l) : (hurts W l).Pairwise Apart := by
  rw [List.pairwise_iff_getElem]
  intro i j hi hj hij
  rw [hurts_len] at hi hj
  obtain ⟨s, hs⟩ := get_of hi
  obtain ⟨t, ht⟩ := get_of hj
  have e1 := (List.getElem?_eq_some_iff.1 (hurts_get (l := l) hs)).2
  have e2 := (List.getElem?_eq_some_iff.1 (hurts_get (l := l) ht)).2
  rw [e1, e2]
  have := (List.pairwise_iff_getElem.1 h.good.pw) i j hi hj hij
  rw [(List.getElem?_eq_some_iff.1 hs).2, (List.getElem?_eq_some_iff.1 ht).2] at this
  exact this
theorem sorted_of {l : List Int} (h : l.Pairwise (· < ·)) : sortedI l = true := by
  refine sorted_yes fun i hi => ?_
  have := (List.pairwise_iff_getElem.1 h) i (i + 1) (by omega) hi (by omega)
  rw [List.getD_eq_getElem?_getD, List.getD_eq_getElem?_getD, List.getElem?_eq_getElem hi, List.getElem?_eq_getElem (by omega : i < l.length)]
  show ¬ l[i + 1] < l[i]
  omega
/-- Each troop is there still, no more alive than it was; or it is gone. -/
theorem Struck.each {W : Wd} {l : List Blw} (h : Struck W l) {k : Nat} (hk : k < W.troops.length) :
    (∃ m : Int, 0 ≤ m ∧ trOfD (struckW W l).troops (W.troops.getD k default).id = some { W.troops.getD k default with life := (W.troops.getD k default).life - m } ∧ (struckG W l).any (fun y => (W.troops.getD k default).id == y) = false) ∨
    (trOfD (struckW W l).troops (W.troops.getD k default).id = none ∧ (struckG W l).any (fun y => (W.troops.getD k default).id == y) = true) := by
  obtain ⟨t, ht⟩ := get_of hk
  rw [getD_of ht]
  have hx := hurts_get (l := l) ht
  obtain ⟨x, hxe⟩ : ∃ x : Trp, x = { t with life := t.life - (harmW W l).getD k 0 } := ⟨_, rfl⟩
  rw [← hxe] at hx
  have hxm := List.mem_of_getElem? hx
  have hid : x.id = t.id := by rw [hxe]
  have huniq : ∀ y ∈ hurts W l, y.id = t.id → y = x := fun y hy e => by
    have h1 := find_id h.pw hy
    have h2 := find_id h.pw hxm
    rw [e] at h1; rw [hid, h1] at h2
    injection h2
  rw [h.hW, h.hG]
  by_cases hp : 0 < x.life
  · refine .inl ⟨(harmW W l).getD k 0, h.harm k, ?_, ?_⟩
    · have := find_id (h.pw.filter fun t => decide (0 < t.life)) (List.mem_filter.2 ⟨hxm, decide_eq_true hp⟩)
      rw [hid] at this
      rw [← hxe]; exact this
    · rw [List.any_eq_false]
      intro y hy
      obtain ⟨z, hz, rfl⟩ := List.mem_map.1 hy
      obtain ⟨hz1, hz2⟩ := List.mem_filter.1 hz
      intro e
      have e : t.id = z.id := by simpa using e
      have := huniq z hz1 e.symm
      subst this
      rw [decide_eq_true hp] at hz2
      exact nomatch hz2
  · refine .inr ⟨find_noid fun y hy e => ?_, ?_⟩
    · obtain ⟨h1, h2⟩ := List.mem_filter.1 hy
      have := huniq y h1 e
      subst this
      exact hp (of_decide_eq_true h2)
    · rw [List.any_eq_true]
      exact ⟨x.id, List.mem_map.2 ⟨x, List.mem_filter.2 ⟨hxm, by rw [decide_eq_false hp]; rfl⟩, rfl⟩, by rw [hid]; simp⟩
end Go.Proofs.Ytffjpfpbpnhmcaa
set_option linter.unusedVariables false
set_option linter.unusedSimpArgs false
namespace Go.Proofs.Ytffjpfpbpnhmcaa
open Go.RowKit

section
variable {f : Fld} {a b c x y : Cel} {d D : Int}
/-- Whence one comes does not hang on where one is bound for. -/
theorem prev_same (hf : f.chk = 0) (ha : f.ground a = true) (hc1 : 0 ≤ frF f a b c) (hc2 : 0 ≤ frF f a x c) : prevF f (frF f a b) c = prevF f (frF f a x) c := by
  have key : ∀ t n, n ∈ sidesC c → 0 ≤ frF f a t c → ((f.ground n && decide (0 ≤ frF f a t n) && decide (frF f a t n + f.kost c = frF f a t c)) = true ↔ ∃ e, DstF f a n e ∧ DstF f a c (e + f.kost c)) := by
    intro t n hn ht
    have hs := frF_spec (b := t) hf ha
    have hdc := frF_dst hf ha ht
    constructor
    · intro h
      simp only [Bool.and_eq_true, decide_eq_true_eq] at h
      exact ⟨_, frF_dst hf ha h.1.2, by rw [h.2]; exact hdc⟩
    · rintro ⟨e, h1, h2⟩
      have he := hdc.uniq h2
      have hn2 : frF f a t n = e := hs.known n e h1 fun D hD => by
        have := (hs.dist c ht).2 D hD
        have h3 := Fld.est_step t (Fld.sides_symm hn)
        have hk := f.kost_bd (c := c)
        omega
      rw [hn2, RchF.ground ha h1.1, decide_eq_true (RchF.nn h1.1), decide_eq_true he.symm]; rfl
  unfold prevF
  congr 1
  apply find_congr
  intro n hn
  rw [Bool.eq_iff_iff, key b n hn hc1, key x n hn hc2]
where
  find_congr {p q : Cel → Bool} : ∀ {l : List Cel}, (∀ n ∈ l, p n = q n) → l.find? p = l.find? q
    | [], _ => rfl
    | n :: l, h => by
      rw [List.find?_cons, List.find?_cons, h n List.mem_cons_self, find_congr fun m hm => h m (List.mem_cons_of_mem _ hm)]
/-- The way back is the same, wherever one was bound for. -/
theorem wayB_same (hf : f.chk = 0) (ha : f.ground a = true) (hb : 0 ≤ frF f a b b) (hx : 0 ≤ frF f a x x) : ∀ (n : Nat) (c : Cel), 0 ≤ frF f a b c → 0 ≤ frF f a x c → (frF f a b c).toNat = n → wayB f (frF f a b) a c = wayB f (frF f a x) a c := by
  have F1 := frF_frs hf ha hb
  have F2 := frF_frs hf ha hx
  intro n
  induction n using Nat.strongRecOn with
  | ind n ih =>
    intro c h1 h2 hn
    by_cases e : c = a
    · subst e; rw [wayB_self F1, wayB_self F2]
    · have hp := prev_same (b := b) (x := x) hf ha h1 h2
      obtain ⟨p1, p2, p3, p4⟩ := F1.prev h1 e
      obtain ⟨q1, q2, q3, q4⟩ := F2.prev h2 e
      have hk := f.kost_bd (c := c)
      rw [wayB_step F1 h1 e, wayB_step F2 h2 e, ← hp]
      congr 1
      exact ih _ (by omega) _ p3 (by rw [hp]; exact q3) rfl
/-- Behind a cell on the way back there is the way back from it. -/
theorem wayB_suffix {fr : Cel → Int} (h : Frs f a fr) : ∀ (n : Nat) (c : Cel), 0 ≤ fr c → (fr c).toNat = n → ∀ i, (hi : i < (wayB f fr a c).length) → (wayB f fr a c).drop i = wayB f fr a ((wayB f fr a c)[i]) ∧ RchF f ((wayB f fr a c)[i]) c (fr c - fr ((wayB f fr a c)[i])) := by
  intro n
  induction n using Nat.strongRecOn with
  | ind n ih =>
    intro c hc hn i hi
    by_cases e : c = a
    · subst e
      rw [wayB_self h] at hi
      have : i = 0 := by simpa using hi
      subst this
      simp only [wayB_self h, List.drop_zero, List.getElem_cons_zero]
      exact ⟨by first | trivial | rfl, by rw [Int.sub_self]; exact .start rfl⟩
    · have hst := wayB_step h hc e
      obtain ⟨p1, p2, p3, p4⟩ := h.prev hc e
      have hk := f.kost_bd (c := c)
      cases i with
      | zero =>
        have e0 : (wayB f fr a c)[0] = c := by simp only [hst, List.getElem_cons_zero]
        rw [e0, List.drop_zero, Int.sub_self]; exact ⟨rfl, .start rfl⟩
      | succ i =>
        have hi' : i < (wayB f fr a (prevF f fr c)).length := by rw [hst] at hi; simpa using hi
        obtain ⟨k1, k2⟩ := ih _ (by omega) _ p3 rfl i hi'
        have e1 : (wayB f fr a c)[i + 1] = (wayB f fr a (prevF f fr c))[i] := by simp only [hst, List.getElem_cons_succ]
        rw [e1]
        refine ⟨by rw [← k1, hst, List.drop_succ_cons], ?_⟩
        have r : RchF f _ c (fr (prevF f fr c) - fr ((wayB f fr a (prevF f fr c))[i]) + f.kost c) := .step k2 (Fld.mem_adj.2 ⟨Fld.sides_symm p1, h.gr c hc⟩)
        rw [show fr c - fr ((wayB f fr a (prevF f fr c))[i]) = fr (prevF f fr c) - fr ((wayB f fr a (prevF f fr c))[i]) + f.kost c by omega]
        exact r
/-- A part of a cheapest way. -/
theorem way_part (he : findE f a b = 0) {n : Nat} (hn : n < (findP f a b).length) {x : Cel} (hx : (findP f a b).getD n default = x) : findE f a x = 0 ∧ findE f x b = 0 ∧ findP f a x = (findP f a b).take (n + 1) ∧ findK f a x + findK f x b = findK f a b := by
  obtain ⟨hf, ha, hb, h0, hk, hp⟩ := find_dat he
  have F := frF_frs hf ha h0
  have hl : (findP f a b).length = (wayB f (frF f a b) a b).length := by rw [hp, List.length_reverse]
  have hi : (wayB f (frF f a b) a b).length - 1 - n < (wayB f (frF f a b) a b).length := by omega
  obtain ⟨s1, s2⟩ := wayB_suffix F _ b h0 rfl _ hi
  have ex : (wayB f (frF f a b) a b)[(wayB f (frF f a b) a b).length - 1 - n] = x := by
    rw [getD_dd hn] at hx
    rw [← hx]
    simp only [hp, List.getElem_reverse]
  rw [ex] at s1 s2
  have hxm : x ∈ wayB f (frF f a b) a b := by rw [← ex]; exact List.getElem_mem hi
  obtain ⟨x1, x2, x3⟩ := wayB_in F _ b h0 rfl x hxm
  have hdx := frF_dst hf ha x1
  have e1 := frF_end hf ha hdx
  have hx0 : 0 ≤ frF f a x x := by rw [e1]; exact x1
  have hax := find_ok hf ha x3 hx0
  have r2 := frF_rch hf x3 s2
  have hxb := find_ok hf x3 hb r2.1
  refine ⟨hax, hxb, ?_, ?_⟩
  · have hpx : findP f a x = (wayB f (frF f a x) a x).reverse := by unfold findP; rw [if_pos hax]
    rw [hpx, ← wayB_same hf ha h0 hx0 _ x x1 hx0 rfl, ← s1, hp, List.reverse_drop, hl.symm.trans hl]
    congr 1
    have : (wayB f (frF f a b) a b).reverse.length = (wayB f (frF f a b) a b).length := List.length_reverse
    omega
  · have k1 : findK f a x = frF f a x x := by unfold findK; rw [if_pos hax]
    have k2 : findK f x b = frF f x b b := by unfold findK; rw [if_pos hxb]
    rw [k1, k2, hk, e1]
    have h3 := (frF_dst hf ha h0).2 _ (RchF.tr hdx.1 (frF_dst hf x3 r2.1).1)
    omega
end
end Go.Proofs.Ytffjpfpbpnhmcaa
set_option linter.unusedVariables false
set_option linter.unusedSimpArgs false
namespace Go.Proofs.Ytffjpfpbpnhmcaa
open Go.RowKit

theorem step1_dat {f : Fld} {l : List Gox} {T : List Trp} {k : Nat} {c : Cel} (h : step1 f l T k = some c) :
    0 ≤ goK l (T.getD k default).id ∧ findE f (T.getD k default).spot (l.getD (goK l (T.getD k default).id).toNat default).to = 0 ∧ 2 ≤ (findP f (T.getD k default).spot (l.getD (goK l (T.getD k default).id).toNat default).to).length ∧
    c = (findP f (T.getD k default).spot (l.getD (goK l (T.getD k default).id).toNat default).to).getD 1 default ∧ occ T c ≤ 0 := by
  unfold step1 at h
  split at h
  · exact nomatch h
  · split at h
    · exact nomatch h
    · split at h
      · exact nomatch h
      · split at h
        · exact nomatch h
        · rename_i h1 h2 h3 h4
          injection h with h
          subst h
          exact ⟨by omega, by simpa using h2, by omega, rfl, by omega⟩
theorem wayB_head {f : Fld} {a : Cel} {fr : Cel → Int} (h : Frs f a fr) {c : Cel} (hc : 0 ≤ fr c) : ∃ r, wayB f fr a c = c :: r ∧ (r = [] ↔ c = a) := by
  by_cases e : c = a
  · subst e; exact ⟨[], wayB_self h, by simp⟩
  · obtain ⟨p1, p2, p3, p4⟩ := h.prev hc e
    refine ⟨_, wayB_step h hc e, ⟨fun hr => ?_, fun h => absurd h e⟩⟩
    by_cases e2 : prevF f fr c = a
    · rw [e2, wayB_self h] at hr; exact nomatch hr
    · rw [wayB_step h p3 e2] at hr; exact nomatch hr
/-- The first step of a way. -/
theorem way_first {f : Fld} {a b x : Cel} (he : findE f a b = 0) (hn : 2 ≤ (findP f a b).length) (hx : (findP f a b).getD 1 default = x) :
    findE f a x = 0 ∧ findE f x b = 0 ∧ findK f a x + findK f x b = findK f a b ∧ a ∈ sidesC x ∧ f.ground x = true ∧ x ≠ a ∧ findP f a x = [a, x] := by
  obtain ⟨h1, h2, h3, h4⟩ := way_part he (n := 1) (by omega) hx
  obtain ⟨hf, ha, hb, h0, hk, hp⟩ := find_dat he
  obtain ⟨_, _, gx, hx0, _, hpx⟩ := find_dat h1
  have F := frF_frs hf ha h0
  have Fx := frF_frs hf ha hx0
  have hl : (findP f a x).length = 2 := by rw [h3, List.length_take]; omega
  rw [hpx, List.length_reverse] at hl
  have hxa : x ≠ a := by
    intro e
    obtain ⟨r, e1, e2⟩ := wayB_head Fx hx0
    rw [e1, e2.2 e] at hl
    simp at hl
  have hst := wayB_step Fx hx0 hxa
  obtain ⟨p1, p2, p3, p4⟩ := Fx.prev hx0 hxa
  obtain ⟨r, e1, e2⟩ := wayB_head Fx p3
  rw [hst, e1] at hl
  have hr : r = [] := List.eq_nil_of_length_eq_zero (by simpa using hl)
  have hpa := e2.1 hr
  refine ⟨h1, h2, h4, by rw [← hpa]; exact p1, gx, hxa, ?_⟩
  rw [hpx, hst, e1, hr, hpa]; rfl
theorem side_unit {a x : Cel} (h : a ∈ sidesC x) : -1 ≤ x.x - a.x ∧ x.x - a.x ≤ 1 ∧ -1 ≤ x.y - a.y ∧ x.y - a.y ≤ 1 ∧ (x.x - a.x) * (x.x - a.x) + (x.y - a.y) * (x.y - a.y) = 1 := by
  unfold sidesC at h
  simp only [List.mem_cons, List.not_mem_nil, or_false] at h
  rcases h with rfl | rfl | rfl | rfl <;> dsimp only
  · rw [show x.x - x.x = 0 by omega, show x.y - (x.y - 1) = 1 by omega]; decide
  · rw [show x.x - (x.x - 1) = 1 by omega, show x.y - x.y = 0 by omega]; decide
  · rw [show x.x - (x.x + 1) = -1 by omega, show x.y - x.y = 0 by omega]; decide
  · rw [show x.x - x.x = 0 by omega, show x.y - (x.y + 1) = -1 by omega]; decide
theorem set_pw {T : List Trp} {k : Nat} {c : Cel} (hP : T.Pairwise Apart) (hk : k < T.length) (hc : occ T c ≤ 0) : (T.set k ((T.getD k default).to c)).Pairwise Apart := by
  have hno : ∀ t ∈ T, t.spot ≠ c := fun t ht e => by have := occ_pos.2 ⟨t, ht, e⟩; omega
  have hek : T.getD k default = T[k] := by rw [List.getD_eq_getElem?_getD, List.getElem?_eq_getElem hk]; rfl
  rw [List.pairwise_iff_getElem] at hP ⊢
  intro i j hi hj hij
  rw [List.length_set] at hi hj
  have h := hP i j hi hj hij
  rw [List.getElem_set, List.getElem_set]
  split <;> split
  · omega
  · rename_i e1 e2
    subst e1
    exact ⟨by have e9 := congrArg Trp.id hek; have h9 := h.1; show (T.getD k default).id < _; omega, fun e => hno _ (List.getElem_mem hj) e.symm⟩
  · rename_i e1 e2
    subst e2
    exact ⟨by have e9 := congrArg Trp.id hek; have h9 := h.1; show _ < (T.getD k default).id; omega, hno _ (List.getElem_mem hi)⟩
  · exact h
theorem stS_all {f : Fld} {l : List Gox} {T : List Trp} {Q : Trp → Prop} (hQ : ∀ t c, Q t → f.ground c = true → Q (t.to c)) (hP : T.Pairwise Apart) (hT : ∀ t ∈ T, Q t) : ∀ k, k ≤ T.length → (stS f l T k).1.Pairwise Apart ∧ ∀ t ∈ (stS f l T k).1, Q t
  | 0, _ => ⟨hP, hT⟩
  | k + 1, hk => by
    obtain ⟨ih1, ih2⟩ := stS_all (l := l) hQ hP hT k (by omega)
    have hl := (stS_len (f := f) (l := l) (T := T) k).1
    cases hs : step1 f l (stS f l T k).1 k with
    | none => rw [stS_none rfl hs]; exact ⟨ih1, ih2⟩
    | some c =>
      rw [stS_some rfl hs]
      obtain ⟨d1, d2, d3, d4, d5⟩ := step1_dat hs
      obtain ⟨_, _, _, _, g, _⟩ := way_first d2 d3 d4.symm
      refine ⟨set_pw ih1 (by omega) d5, fun t ht => ?_⟩
      rcases List.mem_or_eq_of_mem_set ht with ht | rfl
      · exact ih2 t ht
      · exact hQ _ _ (ih2 _ (mem_dd (by omega))) g
noncomputable def mvC (f : Fld) (l : List Gox) (T : List Trp) (i : Nat) : Option Cel := step1 f l (stS f l T i).1 i
theorem getD_set_self {T : List Trp} {k : Nat} {t : Trp} (h : k < T.length) : (T.set k t).getD k default = t := by rw [List.getD_eq_getElem?_getD, List.getElem?_set_self h]; rfl
theorem getD_set_ne {T : List Trp} {k i : Nat} {t : Trp} (h : k ≠ i) : (T.set k t).getD i default = T.getD i default := by rw [List.getD_eq_getElem?_getD, List.getElem?_set_ne h, List.getD_eq_getElem?_getD]
/-- Where each is behind k goes. -/
theorem stS_at {f : Fld} {l : List Gox} {T : List Trp} : ∀ k, k ≤ T.length → ∀ i, i < T.length → (stS f l T k).1.getD i default = if i < k then (match mvC f l T i with | some c => (T.getD i default).to c | none => T.getD i default) else T.getD i default
  | 0, _, i, hi => by rw [if_neg (by omega)]; rfl
  | k + 1, hk, i, hi => by
    have ih := stS_at (f := f) (l := l) (T := T) k (by omega)
    have hl := (stS_len (f := f) (l := l) (T := T) k).1
    have hkk := ih k (by omega)
    rw [if_neg (by omega)] at hkk
    cases hs : mvC f l T k with
    | none =>
      rw [stS_none rfl hs, ih i hi]
      by_cases e : i = k
      · subst e; rw [if_neg (by omega), if_pos (by omega), hs]
      · by_cases e2 : i < k
        · rw [if_pos e2, if_pos (by omega)]
        · rw [if_neg e2, if_neg (by omega)]
    | some c =>
      rw [stS_some rfl hs]
      by_cases e : i = k
      · subst e; rw [getD_set_self (by omega), if_pos (by omega), hs, hkk]
      · rw [getD_set_ne (fun h => e h.symm), ih i hi]
        by_cases e2 : i < k
        · rw [if_pos e2, if_pos (by omega)]
        · rw [if_neg e2, if_neg (by omega)]
theorem stS_M {f : Fld} {l : List Gox} {T : List Trp} : ∀ k, k ≤ T.length → (stS f l T k).2 = ((List.range k).filter fun i => (mvC f l T i).isSome).map fun i => (T.getD i default).id
  | 0, _ => rfl
  | k + 1, hk => by
    have ih := stS_M (f := f) (l := l) (T := T) k (by omega)
    have hkk := stS_at (f := f) (l := l) (T := T) k (by omega) k (by omega)
    rw [if_neg (by omega)] at hkk
    rw [List.range_succ, List.filter_append, List.map_append, List.filter_cons]
    cases hs : mvC f l T k with
    | none => rw [stS_none rfl hs, ih]; simp
    | some c => rw [stS_some rfl hs, ih, hkk]; simp
theorem march_same {W : Wd} {l : List Gox} (h : marchE W l = 0) : W.chk = 0 ∧ marchW W l = (W.stepped l).1 ∧ marchM W l = (W.stepped l).2 := by
  have hc : W.chk = 0 := by
    apply Classical.byContradiction
    intro hn
    rw [(march_bad (l := l) hn).1] at h
    exact hn h
  by_cases hl : (l.length : Int) ≤ 200
  · have := march_ok (l := l) hc hl; exact ⟨hc, this.2⟩
  · rw [(march_many (l := l) hc (by omega)).1] at h; exact nomatch h
/-- What is so behind a march. -/
theorem march_right {W : Wd} {l : List Gox} (h : marchE W l = 0) :
    Good (marchW W l) ∧ (marchW W l).troops.length = W.troops.length ∧ sortedI (marchM W l) = true ∧ marchW W l = { W with troops := (marchW W l).troops } ∧
    ∀ k, k < W.troops.length → ((marchM W l).any (fun y => (W.troops.getD k default).id == y) = false ∧ (marchW W l).troops.getD k default = W.troops.getD k default) ∨
      ∃ c : Cel, (marchM W l).any (fun y => (W.troops.getD k default).id == y) = true ∧ (marchW W l).troops.getD k default = (W.troops.getD k default).to c ∧ 0 ≤ goK l (W.troops.getD k default).id ∧
        findE W.field (W.troops.getD k default).spot (l.getD (goK l (W.troops.getD k default).id).toNat default).to = 0 ∧ findE W.field c (l.getD (goK l (W.troops.getD k default).id).toNat default).to = 0 ∧ findE W.field (W.troops.getD k default).spot c = 0 ∧
        findK W.field (W.troops.getD k default).spot (l.getD (goK l (W.troops.getD k default).id).toNat default).to = findK W.field c (l.getD (goK l (W.troops.getD k default).id).toNat default).to + findK W.field (W.troops.getD k default).spot c ∧
        (W.troops.getD k default).spot ∈ sidesC c := by
  obtain ⟨hc, eW, eM⟩ := march_same h
  have hG := Good.of_chk hc
  rw [eW, eM]
  have hall := stS_all (f := W.field) (l := l) (T := W.troops) (Q := fun t => 0 < t.id ∧ t.id < W.next ∧ TroopOk W.field W.bases.length t)
    (fun t c hq hg => ⟨hq.1, hq.2.1, ⟨hq.2.2.kind, hq.2.2.owner, hg, hq.2.2.life, hq.2.2.load⟩⟩) hG.pw (fun t ht => hG.each ht) W.troops.length (Nat.le_refl _)
  have hlen := stepped_len W l
  have hM := stS_M (f := W.field) (l := l) (T := W.troops) W.troops.length (Nat.le_refl _)
  have hpw := hG.pw
  refine ⟨Good.of_pw hG rfl rfl rfl rfl rfl hG.now (by rw [hlen]; exact hG.nt) hall.1 hall.2, hlen, ?_, rfl, fun k hk => ?_⟩
  · show sortedI (stS W.field l W.troops W.troops.length).2 = true
    rw [hM]
    refine sorted_of ?_
    rw [List.pairwise_map]
    have hr : ((List.range W.troops.length).filter fun i => (mvC W.field l W.troops i).isSome).Pairwise (· < ·) := List.Pairwise.filter _ List.pairwise_lt_range
    refine List.Pairwise.imp_of_mem (fun {i j} hi hj hij => ?_) hr
    have hi := List.mem_range.1 (List.mem_filter.1 hi).1
    have hj := List.mem_range.1 (List.mem_filter.1 hj).1
    rw [getD_dd hi, getD_dd hj]
    exact ((List.pairwise_iff_getElem.1 hpw) i j hi hj hij).1
  · have hat := stS_at (f := W.field) (l := l) (T := W.troops) W.troops.length (Nat.le_refl _) k hk
    rw [if_pos hk] at hat
    have hkk := stS_at (f := W.field) (l := l) (T := W.troops) k (by omega) k hk
    rw [if_neg (by omega)] at hkk
    have hany : ((W.stepped l).2).any (fun y => (W.troops.getD k default).id == y) = (mvC W.field l W.troops k).isSome := by
      show (stS W.field l W.troops W.troops.length).2.any _ = _
      rw [hM, Bool.eq_iff_iff, List.any_eq_true]
      constructor
      · rintro ⟨y, hy, e⟩
        obtain ⟨i, hi, rfl⟩ := List.mem_map.1 hy
        obtain ⟨hi1, hi2⟩ := List.mem_filter.1 hi
        have hi1 := List.mem_range.1 hi1
        have e : (W.troops.getD k default).id = (W.troops.getD i default).id := by simpa using e
        have : i = k := by
          rw [getD_dd hk, getD_dd hi1] at e
          rcases Nat.lt_trichotomy i k with q | q | q
          · have := ((List.pairwise_iff_getElem.1 hpw) i k hi1 hk q).1; omega
          · exact q
          · have := ((List.pairwise_iff_getElem.1 hpw) k i hk hi1 q).1; omega
        rw [← this]; exact hi2
      · intro hs
        exact ⟨_, List.mem_map.2 ⟨k, List.mem_filter.2 ⟨List.mem_range.2 hk, hs⟩, rfl⟩, by simp⟩
    cases hs : mvC W.field l W.troops k with
    | none =>
      rw [hs] at hat hany
      exact .inl ⟨hany, hat⟩
    | some c =>
      rw [hs] at hat hany
      obtain ⟨d1, d2, d3, d4, d5⟩ := step1_dat hs
      rw [hkk] at d1 d2 d3 d4
      obtain ⟨f1, f2, f3, f4, f5, f6, f7⟩ := way_first d2 d3 d4.symm
      exact .inr ⟨c, hany, hat, d1, d2, f2, f1, by omega, f4⟩
end Go.Proofs.Ytffjpfpbpnhmcaa
set_option linter.unusedVariables false
set_option linter.unusedSimpArgs false
namespace Go.Proofs.Ytffjpfpbpnhmcaa
open Go.RowKit

def seenH (f : Fld) (c : Cel) (r : Int) : Nat := (min (f.high - 1) (c.y + r) - max 0 (c.y - r) + 1).toNat
def seenW (f : Fld) (c : Cel) (r : Int) : Nat := (min (f.wide - 1) (c.x + r) - max 0 (c.x - r) + 1).toNat
def seenAt (c : Cel) (r : Int) (k j : Nat) : Cel := ⟨max 0 (c.x - r) + (j : Int), max 0 (c.y - r) + (k : Int)⟩
def seenB (f : Fld) (c n : Cel) : Bool := bareC f c n || bareC f n c
def seenRow (f : Fld) (c : Cel) (r : Int) (k j : Nat) : List Cel := ((List.range j).map (seenAt c r k)).filter (seenB f c)
def seenTo (f : Fld) (c : Cel) (r : Int) (k : Nat) : List Cel := (List.range k).flatMap fun i => seenRow f c r i (seenW f c r)
def seenE (f : Fld) (c : Cel) (r : Int) : Int := if f.atE c ≠ 0 then f.atE c else if r < 0 ∨ 12 < r then 1 else 0
def seenL (f : Fld) (c : Cel) (r : Int) : List Cel := if seenE f c r ≠ 0 then [] else seenTo f c r (seenH f c r)
end Go.Proofs.Ytffjpfpbpnhmcaa
set_option linter.unusedVariables false
set_option linter.unusedSimpArgs false
namespace Go.Proofs.Ytffjpfpbpnhmcaa
open Go.RowKit

def repY : Rep UInt8 := Rep.flat 1 (fun b => [.int .u8 (b.toNat : Int)]) (fun _ => True) (fun _ u => ∃ n : Int, u = .int .u8 n) (fun _ => rfl) (by intro a u hu; simp at hu; subst hu; rfl) (by
  intro a j u hu
  cases j with
  | zero => simp at hu; exact ⟨_, hu.symm⟩
  | succ j => simp at hu)
/-- A text of these bytes. -/
def bytesS (l : List UInt8) : ByteArray := ⟨l.toArray⟩
section
variable {P : Program} {n : Nat} {E E' : List (Nat × Value)} {w : World} {d : Option Nat} {ty : TypeId} {pos : String} {af : Array Edge} {g : Option (Nat × Bool)} {x y z u : Operand} {t t2 : TypeId}
end
end Go.Proofs.Ytffjpfpbpnhmcaa
set_option linter.unusedVariables false
set_option linter.unusedSimpArgs false
namespace Go.Proofs.Ytffjpfpbpnhmcaa
open Go.RowKit

def sgn8 (p : Int) : UInt8 := ([46, 35, 116, 111] : List UInt8).getD p.toNat 0
/-- The first so many signs of a row. -/
def rowT (f : Fld) (k j : Nat) : List UInt8 := (((f.places.drop (k * f.wide.toNat)).take (k * f.wide.toNat + f.wide.toNat - k * f.wide.toNat)).take j).map sgn8
def txt (f : Fld) (pre : List (Fin f.high.toNat)) : List UInt8 := pre.flatMap fun k => rowT f k.1 f.wide.toNat ++ [10]
/-- A field's text. -/
def fldText (f : Fld) : ByteArray := if f.chk ≠ 0 then bytesS [] else bytesS (txt f (List.finRange f.high.toNat))
end Go.Proofs.Ytffjpfpbpnhmcaa
set_option linter.unusedVariables false
set_option linter.unusedSimpArgs false
namespace Go.Proofs.Ytffjpfpbpnhmcaa
open Go.RowKit

/-- What places a text tells. -/
def readPl (l : List UInt8) : List Int := (l.map fun b => Lib.indexByte ([46, 35, 116, 111] : List UInt8) b).filter fun n => decide (0 ≤ n)
def readFld (s : ByteArray) : Fld := ⟨Lib.indexByte s.data.toList 10, ((Lib.countByte s.data.toList 10 : Nat) : Int), readPl s.data.toList⟩
def readE (s : ByteArray) : Int := if ((readFld s).chk != 0 || !decide (fldText (readFld s) = s)) = true then 4 else 0
def readW (s : ByteArray) : Fld := if ((readFld s).chk != 0 || !decide (fldText (readFld s) = s)) = true then ⟨0, 0, []⟩ else readFld s
end Go.Proofs.Ytffjpfpbpnhmcaa
set_option linter.unusedVariables false
set_option linter.unusedSimpArgs false
namespace Go.Proofs.Ytffjpfpbpnhmcaa
open Go.RowKit

def sightF : Fld := ⟨3, 2, [0, 1, 0, 0, 0, 0]⟩
end Go.Proofs.Ytffjpfpbpnhmcaa
set_option linter.unusedVariables false
set_option linter.unusedSimpArgs false
namespace Go.Proofs.Ytffjpfpbpnhmcaa
open Go.RowKit

theorem MrR_fd_api_Go_0 : Fd Try.prog 53 0 0 := fun _ _ _ => by kernel_rfl
theorem MrR_ag_int : Ag Try.prog 3 false := fun _ => by kernel_rfl
theorem MrR_fd_api_Troop_0 : Fd Try.prog 65 0 0 := fun _ _ _ => by kernel_rfl
theorem MrR_en_mustkeep_MarchRight_1 : Enters Try.prog 38 := en Try.func38 (by kernel_rfl) (by kernel_rfl)
theorem MrR_ag_api_World : Ag Try.prog 49 true := fun _ => by kernel_rfl
theorem MrR_sz_api_World : Sz Try.prog 49 9 := fun _ => by kernel_rfl
theorem MrR_en_march_Step : Enters Try.prog 28 := en Try.func28 (by kernel_rfl) (by kernel_rfl)
theorem MrR_zv_api_World : Zv Try.prog 49 (.agg #[.int .i64 0, .int .i64 0, .slice none 0 0, .slice none 0 0, .slice none 0 0, .slice none 0 0, .slice none 0 0, .int .i64 0, .int .i64 0]) := fun _ => by kernel_rfl
theorem MrR_en_mustkeep_marchLives : Enters Try.prog 29 := en Try.func29 (by kernel_rfl) (by kernel_rfl)
theorem MrR_en_troop_Check : Enters Try.prog 34 := en Try.func34 (by kernel_rfl) (by kernel_rfl)
theorem MrR_fd_api_World_4 : Fd Try.prog 49 4 6 := fun _ _ _ => by kernel_rfl
theorem MrR_ag_S_api_Troop : Ag Try.prog 47 false := fun _ => by kernel_rfl
theorem MrR_en_slices_IsSorted_S_int_int_ : Enters Try.prog 35 := en Try.func35 (by kernel_rfl) (by kernel_rfl)
theorem MrR_sz_api_Troop : Sz Try.prog 65 7 := fun _ => by kernel_rfl
theorem MrR_ag_api_Troop : Ag Try.prog 65 true := fun _ => by kernel_rfl
theorem MrR_zv_api_Troop : Zv Try.prog 65 (.agg #[.int .i64 0, .int .i64 0, .int .i64 0, .int .i64 0, .int .i64 0, .int .i64 0, .int .i64 0]) := fun _ => by kernel_rfl
theorem MrR_en_slices_Contains_S_int_int_ : Enters Try.prog 36 := en Try.func36 (by kernel_rfl) (by kernel_rfl)
theorem MrR_eqs_api_Troop : EqS Try.prog Trp.cells 65 := by
  intro a b w
  obtain ⟨a0, a1, a2, ⟨a3, a4⟩, a5, a6⟩ := a
  obtain ⟨b0, b1, b2, ⟨b3, b4⟩, b5, b6⟩ := b
  simp only [Trp.cells, Trp.mk.injEq, Cel.mk.injEq]
  constructor
  · go_simp
    repeat' split
    all_goals simp_all
  · go_simp
    repeat' split
    all_goals simp_all
theorem MrR_eqg_api_Troop : (Try.prog).eqGuardType (Try.prog).depth 65 = false := by kernel_rfl
theorem MrR_en_slices_IndexFunc_S_api_Go_api_Go_ : Enters Try.prog 37 := en Try.func37 (by kernel_rfl) (by kernel_rfl)
theorem MrR_fd_api_World_0 : Fd Try.prog 49 0 0 := fun _ _ _ => by kernel_rfl
theorem MrR_ag_api_Field : Ag Try.prog 24 true := fun _ => by kernel_rfl
theorem MrR_sz_api_Field : Sz Try.prog 24 3 := fun _ => by kernel_rfl
theorem MrR_fd_api_Troop_3 : Fd Try.prog 65 3 3 := fun _ _ _ => by kernel_rfl
theorem MrR_ag_api_Cell : Ag Try.prog 32 true := fun _ => by kernel_rfl
theorem MrR_sz_api_Cell : Sz Try.prog 32 2 := fun _ => by kernel_rfl
theorem MrR_sz_api_Go : Sz Try.prog 53 3 := fun _ => by kernel_rfl
theorem MrR_fd_api_Go_1 : Fd Try.prog 53 1 1 := fun _ _ _ => by kernel_rfl
theorem MrR_en_path_Far : Enters Try.prog 22 := en Try.func22 (by kernel_rfl) (by kernel_rfl)
theorem MrR_fd_api_Cell_0 : Fd Try.prog 32 0 0 := fun _ _ _ => by kernel_rfl
theorem MrR_fd_api_Cell_1 : Fd Try.prog 32 1 1 := fun _ _ _ => by kernel_rfl
theorem MrR_sz_S_api_Troop : Sz Try.prog 47 1 := fun _ => by kernel_rfl
theorem MrR_en_mustref_SameWorld : Enters Try.prog 32 := en Try.func32 (by kernel_rfl) (by kernel_rfl)
theorem findK_in {f : Fld} {a b : Cel} (he : findE f a b = 0) : 0 ≤ findK f a b ∧ findK f a b ≤ 1000000 := by
  obtain ⟨hf, ga, gb, h0, hk, hp⟩ := find_dat he
  have h1 := (frF_dst hf ga h0).bd hf ga
  have h2 := Fld.len_le hf
  rw [hk]; omega
theorem sq_in {d : Int} (h1 : -1 ≤ d) (h2 : d ≤ 1) : 0 ≤ d * d ∧ d * d ≤ 1 := by
  have : d = -1 ∨ d = 0 ∨ d = 1 := by omega
  rcases this with rfl | rfl | rfl <;> decide
theorem mr_get {α : Type} [Inhabited α] {T : List α} {k : Nat} {x : α} (hk : k < T.length) (h : T.getD k default = x) : T[k]? = some x := by
  rw [← h, List.getD_eq_getElem?_getD, List.getElem?_eq_getElem hk]; rfl
theorem march_none {W : Wd} {l : List Gox} (h : marchE W l ≠ 0) : marchM W l = [] := by unfold marchM; rw [if_pos h]
set_option maxRecDepth 100000 in
set_option maxHeartbeats 400000 in
theorem mrgo_any (pt : Gox) (t : Trp) (b : Nat) (w : World) (HB : Blk w b [.int .i64 t.id, .int .i64 t.owner, .int .i64 t.kind, .int .i64 t.spot.x, .int .i64 t.spot.y, .int .i64 t.life, .int .i64 t.load] 65 (0, 0)) :
    Calls Try.prog 38 #[.agg #[.int .i64 pt.id, .int .i64 pt.to.x, .int .i64 pt.to.y], .pointer (some ⟨b, 0, none⟩)] w (fun e w' => e = .returned (.bool (pt.id == t.id)) ∧ Ext w w') := by
  have qB := HB.lt
  refine calls_W (n := 9) Try.func38 rfl rfl rfl ?_
  refine sq <| rg <| bx rfl rfl rfl rfl fun w_1 b_2 x_3 l_4 B_5 => ?_
  have q_6 := x_3.size
  have z_1 := Ext.tr (Ext.rf w) x_3
  have q_7 := B_5.lt
  refine vl (as_ rfl) rfl <| nl <| nT <| sq <| rg <| vl (fa MrR_fd_api_Go_0 rfl) rfl <| vl (ld rfl (B_5.one MrR_ag_int rfl)) rfl <| vl (fa MrR_fd_api_Troop_0 rfl) rfl <| ?_
  have HB := HB.later x_3
  refine vl (ld rfl (HB.one MrR_ag_int rfl)) rfl <| vl (beq rfl rfl) rfl <| vl (as_ rfl) rfl <| nl <| nT <| rt <| tR (.tmp rfl .nil) <| ?_
  exact ⟨rfl, z_1⟩
theorem mrI (b : Nat) (A : Option Addr) (c : Nat) (l : List Gox) (w : World) (hl : Gox.rep.SHas 24 w A c l) (t : Trp) (HB : Blk w b [.int .i64 t.id, .int .i64 t.owner, .int .i64 t.kind, .int .i64 t.spot.x, .int .i64 t.spot.y, .int .i64 t.life, .int .i64 t.load] 65 (0, 0)) :
    Calls Try.prog 37 #[.slice A l.length c, .func (.func 38) #[] #[.pointer (some ⟨b, 0, none⟩)]] w (fun e w' => e = .returned (.int .i64 (goK l t.id)) ∧ Ext w w') :=
  idxF_G 38 [.pointer (some ⟨b, 0, none⟩)] (fun g => g.id == t.id) A c l w hl MrR_en_mustkeep_MarchRight_1 (fun x hx w' h => mrgo_any x t b w' (HB.later h))
set_option maxRecDepth 100000 in
set_option maxHeartbeats 400000 in
theorem marchRight_walk (a : Wd.At) (W : Wd) (A : Option Addr) (c : Nat) (l : List Gox) (w : World) (hW : Wd.Has w a W) (hl : Gox.rep.SHas 24 w A c l) :
    Calls Try.prog 10 #[.agg ((Wd.cells a W).toArray), .slice A l.length c] w (fun e w' => e = .returned (.bool true) ∧ Ext w w') := by
  refine calls_W (n := 172) Try.func10 rfl rfl rfl ?_
  refine sq <| rg <| bx rfl rfl rfl rfl fun w_1 b_2 x_3 l_4 B_5 => ?_
  have q_6 := x_3.size
  have z_1 := Ext.tr (Ext.rf w) x_3
  have q_7 := B_5.lt
  refine vl (as_ rfl) rfl <| nl <| nT <| sq <| rg <| vl (ld rfl (B_5.all MrR_ag_api_World MrR_sz_api_World)) rfl <| vl (mv rfl) rfl <| ca MrR_en_march_Step rfl rfl ((mstep_any a W _ _ l _ (hW.keep z_1) (hl.keep z_1)).mono ?_)
  rintro e w_13 ⟨a8, A8, c8, rfl, HO8, OM8, hd8, x_14⟩
  refine ⟨_, rfl, ?_⟩
  have q_15 := x_14.size
  have z_13 := Ext.tr z_1 x_14
  have u_9 := fun q hq => (HO8.lt q hq).2
  have lo_10 := fun q hq => (HO8.lt q hq).1
  have u_11 := fun q hq => (OM8.lt q hq).2
  have lo_12 := fun q hq => (OM8.lt q hq).1
  have dd8 : ∀ q ∈ Rep.blkOf A8, q ∈ WOwn.foot a8 → False := hd8
  have dw8 : ∀ q ∈ WOwn.foot a8, q ∈ Rep.blkOf A8 → False := fun q h1 h2 => hd8 q h2 h1
  refine vl (mv rfl) rfl <| vl (ex rfl rfl) rfl <| vl (ex rfl rfl) rfl <| vl (ex rfl rfl) rfl <| al rfl MrR_zv_api_World rfl rfl fun w_16 b_17 x_18 l_19 B_20 => ?_
  have q_21 := x_18.size
  have z_16 := Ext.tr z_13 x_18
  have q_22 := B_20.lt
  refine st rfl rfl B_20 rfl MrR_sz_api_World rfl rfl rfl fun w_23 m_24 B_20 => ?_
  have q_26 := m_24.size
  have z_23 := Ext.mod z_16 m_24 (by simp only [List.mem_singleton, forall_eq]; omega)
  have q_25 := m_24.size
  refine vl (as_ rfl) rfl <| vl (as_ rfl) rfl <| nl <| nT <| sq <| sq <| rg <| ca MrR_en_mustkeep_marchLives rfl rfl ((marchLives_any _).mono ?_)
  rintro e w_27 ⟨rfl, x_28⟩
  refine ⟨_, rfl, ?_⟩
  have q_29 := x_28.size
  have z_27 := Ext.tr z_23 x_28
  refine vl (nt rfl) rfl <| vl (mv rfl) rfl <| ug rfl rfl rfl <| vl (mv rfl) rfl <| ug rfl rfl rfl <| vl (bne rfl rfl) rfl <| vl (pkF rfl rfl) rfl <| nl <| nT <| ?_
  refine cne rfl (fun h_30 => ?_) (fun h_30 => ?_)
  · have hEr := h_30
    refine sq <| rg <| ca MrR_en_mustkeep_marchLives rfl rfl ((marchLives_any _).mono ?_)
    rintro e w_31 ⟨rfl, x_32⟩
    refine ⟨_, rfl, ?_⟩
    have q_33 := x_32.size
    have z_31 := Ext.tr z_27 x_32
    refine vl (mv rfl) rfl <| ug rfl rfl rfl <| vl (mv rfl) rfl <| ug rfl rfl rfl <| vl (ln Try.underlying22 rfl) rfl <| ug rfl rfl rfl <| vl (beq rfl rfl) rfl <| vl (pkT rfl rfl) rfl <| vl (as_ rfl) rfl <| nl <| nT <| rt <| tT <| tR (.tmp rfl .nil) <| ?_
    have hm := march_none (W := W) (l := l) (by simpa using hEr)
    exact ⟨ret_true (by rw [hm]; rfl), z_31⟩
  · obtain ⟨hG, hln, hso, hb1, hra⟩ := march_right (W := W) (l := l) (by simpa using h_30)
    have hV := hG.chk
    have hnt : W.troops.length ≤ 100 := by have := hG.nt; omega
    refine sk <| nT <| sq <| sq <| rg <| ?_
    have B_20 := B_20.later x_28
    refine vl (ld rfl (B_20.all MrR_ag_api_World MrR_sz_api_World)) rfl <| ?_
    have HO8 := HO8.later x_18
    have HO8 := HO8.mod m_24 (fun q hq h => by have hb := List.mem_singleton.1 h; exfalso; (have := u_9 q hq; omega))
    have HO8 := HO8.later x_28
    refine ca MrR_en_troop_Check rfl rfl ((check_any a8 (marchW W l) _ HO8.has).mono ?_)
    rintro e w_34 ⟨rfl, x_35⟩
    refine ⟨_, rfl, ?_⟩
    have q_36 := x_35.size
    have z_34 := Ext.tr z_27 x_35
    refine vl (bne rfl rfl) rfl <| vl (mv rfl) rfl <| vQ rfl rfl rfl rfl (fun hc => fa MrR_fd_api_World_4 rfl) rfl <| ?_
    have B_20 := B_20.later x_35
    refine vQ rfl rfl rfl rfl (fun hc => ld (gt hc rfl) (B_20.one MrR_ag_S_api_Troop rfl)) rfl <| vQ rfl rfl rfl rfl (fun hc => ln Try.underlying47 (gt hc rfl)) rfl <| vQ rfl rfl rfl rfl (fun hc => fa MrR_fd_api_World_4 rfl) rfl <| ?_
    have B_5 := B_5.later (Ext.tr x_14 x_18)
    have B_5 := B_5.mod m_24 (by simp only [List.mem_singleton]; omega)
    have B_5 := B_5.later (Ext.tr x_28 x_35)
    refine vQ rfl rfl rfl rfl (fun hc => ld (gt hc rfl) (B_5.one MrR_ag_S_api_Troop rfl)) rfl <| vQ rfl rfl rfl rfl (fun hc => ln Try.underlying47 (gt hc rfl)) rfl <| vQ rfl rfl rfl rfl (fun hc => bne (gt hc rfl) (gt hc rfl)) rfl <| vl (pO rfl rfl rfl rfl) rfl <| vl (mv rfl) rfl <| vQ rfl rfl rfl rfl (fun hc => mv rfl) rfl <| ?_
    have OM8 := OM8.later x_18
    have OM8 := OM8.mod m_24 (fun q hq h => by have hb := List.mem_singleton.1 h; exfalso; (have := u_11 q hq; omega))
    have OM8 := OM8.later (Ext.tr x_28 x_35)
    refine vC rfl rfl rfl rfl MrR_en_slices_IsSorted_S_int_int_ (fun hc => ec (gt hc rfl) rfl) (fun hc => isSorted_I _ _ (marchM W l) _ OM8.has) rfl fun w_37 x_38 => ?_
    have q_39 := x_38.size
    have z_37 := Ext.tr z_34 x_38
    refine vQ rfl rfl rfl rfl (fun hc => nt (gt hc rfl)) rfl <| vl (pO rfl rfl rfl rfl) rfl <| nl <| nT <| ?_
    have h_40 : (((((marchW W l).chk) != 0) || (((((marchW W l).troops.length : Nat) : Int)) != (W.troops.length : Int))) || (!(sortedI (marchM W l)))) = false := by rw [hV, hln, hso]; simp
    refine cF (by rw [← h_40]; rfl) <| sk <| nT <| sq <| sq <| rg <| vl (fa MrR_fd_api_World_4 rfl) rfl <| ?_
    have B_5 := B_5.later x_38
    refine vl (ld rfl (B_5.one MrR_ag_S_api_Troop rfl)) rfl <| vl (ln Try.underlying47 rfl) rfl <| vl (mv rfl) rfl <| nl <| nT <| bk <| ?_
    have HO8 := HO8.later (Ext.tr x_35 x_38)
    have OM8 := OM8.later x_38
    have B_20 := B_20.later x_38
    refine lp (fun mI EI wI => ∃ k : Nat, EI = [(1, .slice A l.length c), (2, .pointer (some ⟨b_2, 0, none⟩)), (5, .pointer (some ⟨b_17, 0, none⟩)), (6, .slice A8 ((marchM W l).length) c8), (57, .slice a.T W.troops.length a.t), (58, .int .i64 (W.troops.length : Int)), (59, .int .i64 (k : Int))] ∧ mI = W.troops.length - k ∧ Ext w wI ∧ Blk wI b_2 (Wd.cells a W) 49 (0, 0) ∧ WOwn wI w_1.heap.size a8 (marchW W l) ∧ repI.SOwn 3 8 wI w_1.heap.size (Rep.blkOf A8) A8 c8 (marchM W l) ∧ Blk wI b_17 ((Wd.cells a8 (marchW W l))) 49 (0, 0) ∧ (k ≤ W.troops.length)) _ _ ⟨0, rfl, rfl, z_37, B_5, HO8, OM8, B_20, by omega⟩ (.cons rfl (.cons rfl (.cons rfl (.cons rfl (.cons rfl (.cons rfl (.cons (loI rfl (by first | omega | rfl | (simp <;> omega))) .nil))))))) ?_
    rintro m_42 E_43 w_41 ⟨k, rfl, rfl, z_41, B_5, HO8, OM8, B_20, hk⟩
    have q_44 := z_41.size
    have q_45 := B_5.lt
    have u_46 := fun q hq => (HO8.lt q hq).2
    have u_47 := fun q hq => (OM8.lt q hq).2
    have q_48 := B_20.lt
    refine sq <| rg <| vl (blt rfl rfl) rfl <| nl <| nT <| sq <| ?_
    refine clt rfl (fun h_49 => ?_) (fun h_49 => ?_)
    · refine sk <| nT <| sq <| bk <| sq <| rg <| vl (mv rfl) rfl <| vl (iA k Try.underlying47 MrR_sz_api_Troop rfl rfl ((hW.T.keep z_41).adr (Nat.zero_lt_of_lt (show k < _ from (by omega)))) rfl (by omega)) rfl <| vl (ld rfl (Rep.SHas.elt hcT ((hW.T.keep z_41).adh (Nat.zero_lt_of_lt (show k < _ from (by omega)))) (get_d (l := W.troops) (u := default) (by omega)) MrR_ag_api_Troop MrR_sz_api_Troop)) rfl <| al rfl MrR_zv_api_Troop rfl rfl fun w_50 b_51 x_52 l_53 B_54 => ?_
      have q_55 := x_52.size
      have z_50 := Ext.tr z_41 x_52
      have q_56 := B_54.lt
      refine vl (as_ rfl) rfl <| st (new := [.int .i64 ((W.troops.getD k default).id), .int .i64 ((W.troops.getD k default).owner), .int .i64 ((W.troops.getD k default).kind), .int .i64 ((W.troops.getD k default).spot.x), .int .i64 ((W.troops.getD k default).spot.y), .int .i64 ((W.troops.getD k default).life), .int .i64 ((W.troops.getD k default).load)]) rfl rfl B_54 rfl MrR_sz_api_Troop rfl rfl rfl fun w_57 m_58 B_54 => ?_
      have q_60 := m_58.size
      have z_57 := Ext.mod z_50 m_58 (by simp only [List.mem_singleton, forall_eq]; omega)
      have q_59 := m_58.size
      refine nl <| nT <| sq <| ?_
      rcases hra k (by omega) with ⟨c1, c2⟩ | ⟨c, c1, c2, c3, c4, c5, c6, c7, c8⟩
      · have k1 : ((marchM W l).any (fun y => (W.troops.getD k default).id == y)) = false := c1
        refine rg <| vl (fa MrR_fd_api_World_4 rfl) rfl <| ?_
        have B_20 := B_20.later x_52
        have B_20 := B_20.mod m_58 (by simp only [List.mem_singleton]; omega)
        refine vl (ld rfl (B_20.one MrR_ag_S_api_Troop rfl)) rfl <| vl (mv rfl) rfl <| ?_
        have HO8 := HO8.later x_52
        have HO8 := HO8.mod m_58 (fun q hq h => by have hb := List.mem_singleton.1 h; exfalso; (have := u_46 q hq; have := u_9 q hq; omega))
        refine vl (iA k Try.underlying47 MrR_sz_api_Troop rfl rfl (HO8.T.has.adr (Nat.zero_lt_of_lt (show k < _ from (by omega)))) rfl (by omega)) rfl <| vl (ld rfl (Rep.SHas.elt hcT (HO8.T.has.adh (Nat.zero_lt_of_lt (show k < _ from (by omega)))) (mr_get (by omega) c2) MrR_ag_api_Troop MrR_sz_api_Troop)) rfl <| al rfl MrR_zv_api_Troop rfl rfl fun w_61 b_62 x_63 l_64 B_65 => ?_
        have q_66 := x_63.size
        have z_61 := Ext.tr z_57 x_63
        have q_67 := B_65.lt
        refine st (new := [.int .i64 ((W.troops.getD k default).id), .int .i64 ((W.troops.getD k default).owner), .int .i64 ((W.troops.getD k default).kind), .int .i64 ((W.troops.getD k default).spot.x), .int .i64 ((W.troops.getD k default).spot.y), .int .i64 ((W.troops.getD k default).life), .int .i64 ((W.troops.getD k default).load)]) rfl rfl B_65 rfl MrR_sz_api_Troop rfl rfl rfl fun w_68 m_69 B_65 => ?_
        have q_71 := m_69.size
        have z_68 := Ext.mod z_61 m_69 (by simp only [List.mem_singleton, forall_eq]; omega)
        have q_70 := m_69.size
        refine nl <| nT <| sq <| sq <| rg <| vl (mv rfl) rfl <| vl (fa MrR_fd_api_Troop_0 rfl) rfl <| ?_
        have B_54 := B_54.later x_63
        have B_54 := B_54.mod m_69 (by simp only [List.mem_singleton]; omega)
        refine vl (ld rfl (B_54.one MrR_ag_int rfl)) rfl <| ?_
        have OM8 := OM8.later x_52
        have OM8 := OM8.mod m_58 (fun q hq h => by have hb := List.mem_singleton.1 h; exfalso; (have := u_47 q hq; have := u_11 q hq; omega))
        have OM8 := OM8.later x_63
        have OM8 := OM8.mod m_69 (fun q hq h => by have hb := List.mem_singleton.1 h; exfalso; (have := u_47 q hq; have := u_11 q hq; omega))
        refine ca MrR_en_slices_Contains_S_int_int_ rfl rfl ((contains_I ((W.troops.getD k default).id) _ _ (marchM W l) _ OM8.has).mono ?_)
        rintro e w_72 ⟨rfl, x_73⟩
        refine ⟨_, rfl, ?_⟩
        have q_74 := x_73.size
        have z_72 := Ext.tr z_68 x_73
        refine vl (nt (evb rfl k1)) rfl <| nl <| nT <| cT rfl <| sq <| sq <| rg <| ?_
        have B_65 := B_65.later x_73
        refine vl (ld rfl (B_65.all MrR_ag_api_Troop MrR_sz_api_Troop)) rfl <| ?_
        have B_54 := B_54.later x_73
        refine vl (ld rfl (B_54.all MrR_ag_api_Troop MrR_sz_api_Troop)) rfl <| vl (bnS MrR_eqs_api_Troop MrR_eqg_api_Troop (p := W.troops.getD k default) (q := W.troops.getD k default) rfl rfl) rfl <| nl <| nT <| ?_
        have h_75 : (!decide (W.troops.getD k default = W.troops.getD k default)) = false := by simp
        refine cF (by rw [← h_75]; rfl) <| sk <| nT <| xt <| xT <| xB <| nT <| rg <| vl (bad rfl rfl (inI (by omega))) rfl <| vl (mv rfl) rfl <| nl <| ?_
        have B_5 := B_5.later x_52
        have B_5 := B_5.mod m_58 (by simp only [List.mem_singleton]; omega)
        have B_5 := B_5.later x_63
        have B_5 := B_5.mod m_69 (by simp only [List.mem_singleton]; omega)
        have B_5 := B_5.later x_73
        have HO8 := HO8.later x_63
        have HO8 := HO8.mod m_69 (fun q hq h => by have hb := List.mem_singleton.1 h; exfalso; (have := u_46 q hq; have := u_9 q hq; omega))
        have HO8 := HO8.later x_73
        have OM8 := OM8.later x_73
        have B_20 := B_20.later x_63
        have B_20 := B_20.mod m_69 (by simp only [List.mem_singleton]; omega)
        have B_20 := B_20.later x_73
        exact nI _ _ ⟨k + 1, rfl, rfl, z_72, B_5, HO8, OM8, B_20, by omega⟩ (by omega) (.cons rfl (.cons rfl (.cons rfl (.cons rfl (.cons rfl (.cons rfl (.cons (loI rfl (by first | omega | rfl | (simp <;> omega))) .nil)))))))
      · have k1 : ((marchM W l).any (fun y => (W.troops.getD k default).id == y)) = true := c1
        have k2 : decide (goK l (W.troops.getD k default).id < 0) = false := decide_eq_false (by omega)
        have hgl := (goK_lt (l := l) (id := (W.troops.getD k default).id) (by omega)).2
        obtain ⟨u1, u2, u3, u4, c9⟩ := side_unit c8
        have i1 := findK_in c4
        have i2 := findK_in c5
        have i3 := findK_in c6
        have sx := sq_in u1 u2
        have sy := sq_in u3 u4
        have k3 : (findE W.field (W.troops.getD k default).spot (l.getD (goK l (W.troops.getD k default).id).toNat default).to != 0) = false := by rw [c4]; rfl
        have k4 : (findE W.field c (l.getD (goK l (W.troops.getD k default).id).toNat default).to != 0) = false := by rw [c5]; rfl
        have k5 : (findE W.field (W.troops.getD k default).spot c != 0) = false := by rw [c6]; rfl
        refine rg <| vl (fa MrR_fd_api_World_4 rfl) rfl <| ?_
        have B_20 := B_20.later x_52
        have B_20 := B_20.mod m_58 (by simp only [List.mem_singleton]; omega)
        refine vl (ld rfl (B_20.one MrR_ag_S_api_Troop rfl)) rfl <| vl (mv rfl) rfl <| ?_
        have HO8 := HO8.later x_52
        have HO8 := HO8.mod m_58 (fun q hq h => by have hb := List.mem_singleton.1 h; exfalso; (have := u_46 q hq; have := u_9 q hq; omega))
        refine vl (iA k Try.underlying47 MrR_sz_api_Troop rfl rfl (HO8.T.has.adr (Nat.zero_lt_of_lt (show k < _ from (by omega)))) rfl (by omega)) rfl <| vl (ld rfl (Rep.SHas.elt hcT (HO8.T.has.adh (Nat.zero_lt_of_lt (show k < _ from (by omega)))) (mr_get (by omega) c2) MrR_ag_api_Troop MrR_sz_api_Troop)) rfl <| al rfl MrR_zv_api_Troop rfl rfl fun w_76 b_77 x_78 l_79 B_80 => ?_
        have q_81 := x_78.size
        have z_76 := Ext.tr z_57 x_78
        have q_82 := B_80.lt
        refine st (new := [.int .i64 ((W.troops.getD k default).id), .int .i64 ((W.troops.getD k default).owner), .int .i64 ((W.troops.getD k default).kind), .int .i64 c.x, .int .i64 c.y, .int .i64 ((W.troops.getD k default).life), .int .i64 ((W.troops.getD k default).load)]) rfl rfl B_80 rfl MrR_sz_api_Troop rfl rfl rfl fun w_83 m_84 B_80 => ?_
        have q_86 := m_84.size
        have z_83 := Ext.mod z_76 m_84 (by simp only [List.mem_singleton, forall_eq]; omega)
        have q_85 := m_84.size
        refine nl <| nT <| sq <| sq <| rg <| vl (mv rfl) rfl <| vl (fa MrR_fd_api_Troop_0 rfl) rfl <| ?_
        have B_54 := B_54.later x_78
        have B_54 := B_54.mod m_84 (by simp only [List.mem_singleton]; omega)
        refine vl (ld rfl (B_54.one MrR_ag_int rfl)) rfl <| ?_
        have OM8 := OM8.later x_52
        have OM8 := OM8.mod m_58 (fun q hq h => by have hb := List.mem_singleton.1 h; exfalso; (have := u_47 q hq; have := u_11 q hq; omega))
        have OM8 := OM8.later x_78
        have OM8 := OM8.mod m_84 (fun q hq h => by have hb := List.mem_singleton.1 h; exfalso; (have := u_47 q hq; have := u_11 q hq; omega))
        refine ca MrR_en_slices_Contains_S_int_int_ rfl rfl ((contains_I ((W.troops.getD k default).id) _ _ (marchM W l) _ OM8.has).mono ?_)
        rintro e w_87 ⟨rfl, x_88⟩
        refine ⟨_, rfl, ?_⟩
        have q_89 := x_88.size
        have z_87 := Ext.tr z_83 x_88
        refine vl (nt (evb rfl k1)) rfl <| nl <| nT <| cF rfl <| sk <| nT <| sq <| rg <| vl (mv rfl) rfl <| vl (mf rfl rfl) rfl <| ?_
        have B_54 := B_54.later x_88
        refine ca MrR_en_slices_IndexFunc_S_api_Go_api_Go_ rfl rfl ((mrI _ _ _ l _ (hl.keep z_87) (W.troops.getD k default) B_54).mono ?_)
        rintro e w_90 ⟨rfl, x_91⟩
        refine ⟨_, rfl, ?_⟩
        have q_92 := x_91.size
        have z_90 := Ext.tr z_87 x_91
        refine vl (as_ rfl) rfl <| nl <| nT <| sq <| sq <| rg <| vl (mv rfl) rfl <| vl (blt rfl rfl) rfl <| nl <| nT <| cF (evb rfl k2) <| sk <| nT <| sq <| ?_
        refine rd [(1, 0), (3, 0), (8, 0), (9, 0)] [0, 1, 2, 3, 4, 5, 6, 7, 8, 9, 10, 11, 12, 13, 14] (by kernel_rfl) (by kernel_rfl) ?_
        refine fw rfl rfl (fun _ => fa MrR_fd_api_World_0 rfl) rfl <| ?_
        have B_5 := B_5.later x_52
        have B_5 := B_5.mod m_58 (by simp only [List.mem_singleton]; omega)
        have B_5 := B_5.later x_78
        have B_5 := B_5.mod m_84 (by simp only [List.mem_singleton]; omega)
        have B_5 := B_5.later (Ext.tr x_88 x_91)
        refine fq rfl rfl (fun _ x => ld rfl ((B_5.later x).par [.int .i64 W.field.wide, .int .i64 W.field.high, .slice a.P W.field.places.length a.p] MrR_ag_api_Field MrR_sz_api_Field rfl)) rfl <| fw rfl rfl (fun _ => fa MrR_fd_api_Troop_3 rfl) rfl <| ?_
        have B_54 := B_54.later x_91
        refine fq rfl rfl (fun _ x => ld rfl ((B_54.later x).par [.int .i64 ((W.troops.getD k default).spot.x), .int .i64 ((W.troops.getD k default).spot.y)] MrR_ag_api_Cell MrR_sz_api_Cell rfl)) rfl <| fw rfl rfl (fun _ => mv rfl) rfl <| fw rfl rfl (fun _ => mv rfl) rfl <| fw rfl rfl (fun _ => iA ((goK l (W.troops.getD k default).id).toNat) Try.underlying50 MrR_sz_api_Go rfl rfl ((hl.keep z_90).adr (Nat.zero_lt_of_lt (show (goK l (W.troops.getD k default).id).toNat < _ from (by omega)))) (by omega) (by omega)) rfl <| fw rfl rfl (fun _ => fa MrR_fd_api_Go_1 rfl) rfl <| fq rfl rfl (fun _ x => ld rfl (Rep.SHas.part hcGo ((hl.keep (Ext.tr z_90 x)).adh (Nat.zero_lt_of_lt (show (goK l (W.troops.getD k default).id).toNat < _ from (by omega)))) 1 (ds := [.int .i64 ((l.getD ((goK l (W.troops.getD k default).id).toNat) default).to.x), .int .i64 ((l.getD ((goK l (W.troops.getD k default).id).toNat) default).to.y)]) (get_d (l := l) (u := default) (by omega)) rfl MrR_ag_api_Cell MrR_sz_api_Cell)) rfl <| fc rfl rfl MrR_en_path_Far rfl (fun _ x => pfar_any W.field ((W.troops.getD k default).spot) ((l.getD ((goK l (W.troops.getD k default).id).toNat) default).to) _ _ _ (hW.P.keep (Ext.tr z_90 x))) rfl <| fw rfl rfl (fun _ => mv rfl) rfl <| fw rfl rfl (fun _ => ex rfl rfl) rfl <| fw rfl rfl (fun _ => ex rfl rfl) rfl <| fw rfl rfl (fun _ => as_ rfl) rfl <| fw rfl rfl (fun _ => as_ rfl) rfl <| fn fun w_93 x_94 => ?_
        have q_95 := x_94.size
        have z_93 := Ext.tr z_90 x_94
        refine nT <| sq <| ?_
        refine rd [(1, 0), (3, 0), (8, 0), (9, 0)] [0, 1, 2, 3, 4, 5, 6, 7, 8, 9, 10, 11, 12, 13, 14] (by kernel_rfl) (by kernel_rfl) ?_
        refine fw rfl rfl (fun _ => fa MrR_fd_api_World_0 rfl) rfl <| ?_
        have B_5 := B_5.later x_94
        refine fq rfl rfl (fun _ x => ld rfl ((B_5.later x).par [.int .i64 W.field.wide, .int .i64 W.field.high, .slice a.P W.field.places.length a.p] MrR_ag_api_Field MrR_sz_api_Field rfl)) rfl <| fw rfl rfl (fun _ => fa MrR_fd_api_Troop_3 rfl) rfl <| ?_
        have B_80 := B_80.later (Ext.tr x_88 (Ext.tr x_91 x_94))
        refine fq rfl rfl (fun _ x => ld rfl ((B_80.later x).par [.int .i64 c.x, .int .i64 c.y] MrR_ag_api_Cell MrR_sz_api_Cell rfl)) rfl <| fw rfl rfl (fun _ => mv rfl) rfl <| fw rfl rfl (fun _ => mv rfl) rfl <| fw rfl rfl (fun _ => iA ((goK l (W.troops.getD k default).id).toNat) Try.underlying50 MrR_sz_api_Go rfl rfl ((hl.keep z_93).adr (Nat.zero_lt_of_lt (show (goK l (W.troops.getD k default).id).toNat < _ from (by omega)))) (by omega) (by omega)) rfl <| fw rfl rfl (fun _ => fa MrR_fd_api_Go_1 rfl) rfl <| fq rfl rfl (fun _ x => ld rfl (Rep.SHas.part hcGo ((hl.keep (Ext.tr z_93 x)).adh (Nat.zero_lt_of_lt (show (goK l (W.troops.getD k default).id).toNat < _ from (by omega)))) 1 (ds := [.int .i64 ((l.getD ((goK l (W.troops.getD k default).id).toNat) default).to.x), .int .i64 ((l.getD ((goK l (W.troops.getD k default).id).toNat) default).to.y)]) (get_d (l := l) (u := default) (by omega)) rfl MrR_ag_api_Cell MrR_sz_api_Cell)) rfl <| fc rfl rfl MrR_en_path_Far rfl (fun _ x => pfar_any W.field c ((l.getD ((goK l (W.troops.getD k default).id).toNat) default).to) _ _ _ (hW.P.keep (Ext.tr z_93 x))) rfl <| fw rfl rfl (fun _ => mv rfl) rfl <| fw rfl rfl (fun _ => ex rfl rfl) rfl <| fw rfl rfl (fun _ => ex rfl rfl) rfl <| fw rfl rfl (fun _ => as_ rfl) rfl <| fw rfl rfl (fun _ => as_ rfl) rfl <| fn fun w_96 x_97 => ?_
        have q_98 := x_97.size
        have z_96 := Ext.tr z_93 x_97
        refine nT <| sq <| rg <| vl (fa MrR_fd_api_World_0 rfl) rfl <| ?_
        have B_5 := B_5.later x_97
        refine vl (ld rfl (B_5.par [.int .i64 W.field.wide, .int .i64 W.field.high, .slice a.P W.field.places.length a.p] MrR_ag_api_Field MrR_sz_api_Field rfl)) rfl <| vl (fa MrR_fd_api_Troop_3 rfl) rfl <| ?_
        have B_54 := B_54.later (Ext.tr x_94 x_97)
        refine vl (ld rfl (B_54.par [.int .i64 ((W.troops.getD k default).spot.x), .int .i64 ((W.troops.getD k default).spot.y)] MrR_ag_api_Cell MrR_sz_api_Cell rfl)) rfl <| vl (fa MrR_fd_api_Troop_3 rfl) rfl <| ?_
        have B_80 := B_80.later x_97
        refine vl (ld rfl (B_80.par [.int .i64 c.x, .int .i64 c.y] MrR_ag_api_Cell MrR_sz_api_Cell rfl)) rfl <| ca MrR_en_path_Far rfl rfl ((pfar_any W.field ((W.troops.getD k default).spot) c _ _ _ (hW.P.keep z_96)).mono ?_)
        rintro e w_99 ⟨rfl, x_100⟩
        refine ⟨_, rfl, ?_⟩
        have q_101 := x_100.size
        have z_99 := Ext.tr z_96 x_100
        refine vl (mv rfl) rfl <| vl (ex rfl rfl) rfl <| vl (ex rfl rfl) rfl <| vl (as_ rfl) rfl <| vl (as_ rfl) rfl <| nl <| nT <| sq <| ?_
        refine rd [(2, 0), (5, 0), (9, 0), (12, 0)] [0, 1, 2, 3, 4, 5, 6, 7, 8, 9, 10, 11, 12, 13, 14, 15] (by kernel_rfl) (by kernel_rfl) ?_
        refine fw rfl rfl (fun _ => fa MrR_fd_api_Troop_3 rfl) rfl <| fw rfl rfl (fun _ => fa MrR_fd_api_Cell_0 rfl) rfl <| ?_
        have B_80 := B_80.later x_100
        refine fq rfl rfl (fun _ x => ld rfl ((B_80.later x).one MrR_ag_int rfl)) rfl <| fw rfl rfl (fun _ => fa MrR_fd_api_Troop_3 rfl) rfl <| fw rfl rfl (fun _ => fa MrR_fd_api_Cell_0 rfl) rfl <| ?_
        have B_54 := B_54.later x_100
        refine fq rfl rfl (fun _ x => ld rfl ((B_54.later x).one MrR_ag_int rfl)) rfl <| fw rfl rfl (fun _ => bsu rfl rfl (inI (by omega))) rfl <| fw rfl rfl (fun _ => fa MrR_fd_api_Troop_3 rfl) rfl <| fw rfl rfl (fun _ => fa MrR_fd_api_Cell_1 rfl) rfl <| fq rfl rfl (fun _ x => ld rfl ((B_80.later x).one MrR_ag_int rfl)) rfl <| fw rfl rfl (fun _ => fa MrR_fd_api_Troop_3 rfl) rfl <| fw rfl rfl (fun _ => fa MrR_fd_api_Cell_1 rfl) rfl <| fq rfl rfl (fun _ x => ld rfl ((B_54.later x).one MrR_ag_int rfl)) rfl <| fw rfl rfl (fun _ => bsu rfl rfl (inI (by omega))) rfl <| fw rfl rfl (fun _ => as_ rfl) rfl <| fw rfl rfl (fun _ => as_ rfl) rfl <| fn fun w_102 x_103 => ?_
        have q_104 := x_103.size
        have z_102 := Ext.tr z_99 x_103
        refine nT <| sq <| sq <| rg <| vl (mv rfl) rfl <| vl (bne rfl rfl) rfl <| vl (mv rfl) rfl <| vQ rfl rfl rfl rfl (fun hc => mv rfl) rfl <| vQ rfl rfl rfl rfl (fun hc => bne (gt hc rfl) rfl) rfl <| vl (pO rfl rfl rfl rfl) rfl <| vl (mv rfl) rfl <| vQ rfl rfl rfl rfl (fun hc => mv rfl) rfl <| vQ rfl rfl rfl rfl (fun hc => bne (gt hc rfl) rfl) rfl <| vl (pO rfl rfl rfl rfl) rfl <| vl (mv rfl) rfl <| vQ rfl rfl rfl rfl (fun hc => mv rfl) rfl <| vQ rfl rfl rfl rfl (fun hc => mv rfl) rfl <| vQ rfl rfl rfl rfl (fun hc => mv rfl) rfl <| vQ rfl rfl rfl rfl (fun hc => bad (gt hc rfl) (gt hc rfl) (inI (by (try simp only [Bool.or_eq_true, Bool.or_eq_false_iff, Bool.and_eq_true, Bool.and_eq_false_iff, decide_eq_true_eq, decide_eq_false_iff_not, beq_iff_eq, bne_iff_ne, beq_eq_false_iff_ne, bne_eq_false_iff_eq, Bool.not_eq_true', Bool.not_eq_false', Bool.not_eq_true, Bool.not_eq_false, Int.not_lt, Int.not_le, Nat.not_lt, Nat.not_le, ne_eq, Classical.not_not] at hc); omega))) rfl <| vQ rfl rfl rfl rfl (fun hc => bne (gt hc rfl) (gt hc rfl)) rfl <| vl (pO rfl rfl rfl rfl) rfl <| vl (mv rfl) rfl <| vQ rfl rfl rfl rfl (fun hc => mv rfl) rfl <| vQ rfl rfl rfl rfl (fun hc => mv rfl) rfl <| ?_
        refine vQ rfl rfl rfl rfl (fun hc => bmu (gt hc rfl) (gt hc rfl) (inI ((by omega)))) rfl <| vQ rfl rfl rfl rfl (fun hc => mv rfl) rfl <| vQ rfl rfl rfl rfl (fun hc => mv rfl) rfl <| vQ rfl rfl rfl rfl (fun hc => bmu (gt hc rfl) (gt hc rfl) (inI ((by omega)))) rfl <| vQ rfl rfl rfl rfl (fun hc => bad (gt hc rfl) (gt hc rfl) (inI ((by omega)))) rfl <| vQ rfl rfl rfl rfl (fun hc => bne (gt hc rfl) rfl) rfl <| vl (pO rfl rfl rfl rfl) rfl <| nl <| nT <| ?_
        have h_105 : ((((((findE W.field ((W.troops.getD k default).spot) ((l.getD ((goK l (W.troops.getD k default).id).toNat) default).to)) != 0) || ((findE W.field c ((l.getD ((goK l (W.troops.getD k default).id).toNat) default).to)) != 0)) || ((findE W.field ((W.troops.getD k default).spot) c) != 0)) || ((findK W.field ((W.troops.getD k default).spot) ((l.getD ((goK l (W.troops.getD k default).id).toNat) default).to)) != ((findK W.field c ((l.getD ((goK l (W.troops.getD k default).id).toNat) default).to)) + (findK W.field ((W.troops.getD k default).spot) c)))) || ((((c.x - ((W.troops.getD k default).spot.x)) * (c.x - ((W.troops.getD k default).spot.x))) + ((c.y - ((W.troops.getD k default).spot.y)) * (c.y - ((W.troops.getD k default).spot.y)))) != 1)) = false := by rw [c4, c5, c6, c7, c9]; simp
        refine cF (by rw [← h_105]; rfl) <| sk <| nT <| sq <| rg <| vl (fa MrR_fd_api_Troop_3 rfl) rfl <| ?_
        have B_54 := B_54.later x_103
        refine vl (ld rfl (B_54.par [.int .i64 ((W.troops.getD k default).spot.x), .int .i64 ((W.troops.getD k default).spot.y)] MrR_ag_api_Cell MrR_sz_api_Cell rfl)) rfl <| vl (fa MrR_fd_api_Troop_3 rfl) rfl <| ?_
        have B_80 := B_80.later x_103
        refine st (new := [.int .i64 ((W.troops.getD k default).id), .int .i64 ((W.troops.getD k default).owner), .int .i64 ((W.troops.getD k default).kind), .int .i64 ((W.troops.getD k default).spot.x), .int .i64 ((W.troops.getD k default).spot.y), .int .i64 ((W.troops.getD k default).life), .int .i64 ((W.troops.getD k default).load)]) rfl rfl B_80 rfl MrR_sz_api_Cell rfl rfl rfl fun w_106 m_107 B_80 => ?_
        have q_109 := m_107.size
        have z_106 := Ext.mod z_102 m_107 (by simp only [List.mem_singleton, forall_eq]; omega)
        have q_108 := m_107.size
        refine nl <| nT <| sq <| rg <| vl (ld rfl (B_80.all MrR_ag_api_Troop MrR_sz_api_Troop)) rfl <| ?_
        have B_54 := B_54.mod m_107 (by simp only [List.mem_singleton]; omega)
        refine vl (ld rfl (B_54.all MrR_ag_api_Troop MrR_sz_api_Troop)) rfl <| vl (bnS MrR_eqs_api_Troop MrR_eqg_api_Troop (p := W.troops.getD k default) (q := W.troops.getD k default) rfl rfl) rfl <| nl <| nT <| ?_
        have h_110 : (!decide (W.troops.getD k default = W.troops.getD k default)) = false := by simp
        refine cF (by rw [← h_110]; rfl) <| sk <| nB <| nT <| rg <| vl (bad rfl rfl (inI (by omega))) rfl <| vl (mv rfl) rfl <| nl <| ?_
        have B_5 := B_5.later (Ext.tr x_100 x_103)
        have B_5 := B_5.mod m_107 (by simp only [List.mem_singleton]; omega)
        have HO8 := HO8.later x_78
        have HO8 := HO8.mod m_84 (fun q hq h => by have hb := List.mem_singleton.1 h; exfalso; (have := u_46 q hq; have := u_9 q hq; omega))
        have HO8 := HO8.later (Ext.tr x_88 (Ext.tr x_91 (Ext.tr x_94 (Ext.tr x_97 (Ext.tr x_100 x_103)))))
        have HO8 := HO8.mod m_107 (fun q hq h => by have hb := List.mem_singleton.1 h; exfalso; (have := u_46 q hq; have := u_9 q hq; omega))
        have OM8 := OM8.later (Ext.tr x_88 (Ext.tr x_91 (Ext.tr x_94 (Ext.tr x_97 (Ext.tr x_100 x_103)))))
        have OM8 := OM8.mod m_107 (fun q hq h => by have hb := List.mem_singleton.1 h; exfalso; (have := u_47 q hq; have := u_11 q hq; omega))
        have B_20 := B_20.later x_78
        have B_20 := B_20.mod m_84 (by simp only [List.mem_singleton]; omega)
        have B_20 := B_20.later (Ext.tr x_88 (Ext.tr x_91 (Ext.tr x_94 (Ext.tr x_97 (Ext.tr x_100 x_103)))))
        have B_20 := B_20.mod m_107 (by simp only [List.mem_singleton]; omega)
        exact nI _ _ ⟨k + 1, rfl, rfl, z_106, B_5, HO8, OM8, B_20, by omega⟩ (by omega) (.cons rfl (.cons rfl (.cons rfl (.cons rfl (.cons rfl (.cons rfl (.cons (loI rfl (by first | omega | rfl | (simp <;> omega))) .nil)))))))
    · refine xt <| xT <| xK <| xB <| nT <| sq <| rg <| vl (fa MrR_fd_api_World_4 rfl) rfl <| vl (ld rfl (B_5.one MrR_ag_S_api_Troop rfl)) rfl <| vl (fa MrR_fd_api_World_4 rfl) rfl <| st (new := [.int .i64 ((marchW W l).field.wide), .int .i64 ((marchW W l).field.high), .slice a8.P ((marchW W l).field.places.length) a8.p, .slice a8.B ((marchW W l).bases.length) a8.b, .slice a8.S ((marchW W l).stocks.length) a8.s, .slice a8.M ((marchW W l).mines.length) a8.m, .slice a.T W.troops.length a.t, .int .i64 ((marchW W l).next), .int .i64 ((marchW W l).now)]) rfl rfl B_20 rfl MrR_sz_S_api_Troop rfl rfl rfl fun w_111 m_112 B_20 => ?_
      have q_114 := m_112.size
      have z_111 := Ext.mod z_41 m_112 (by simp only [List.mem_singleton, forall_eq]; omega)
      have q_113 := m_112.size
      refine nl <| nT <| sq <| rg <| vl (ld rfl (B_20.all MrR_ag_api_World MrR_sz_api_World)) rfl <| ?_
      have B_5 := B_5.mod m_112 (by simp only [List.mem_singleton]; omega)
      refine vl (ld rfl (B_5.all MrR_ag_api_World MrR_sz_api_World)) rfl <| ?_
      have HO8 := HO8.mod m_112 (fun q hq h => by have hb := List.mem_singleton.1 h; exfalso; (have := u_46 q hq; have := u_9 q hq; omega))
      refine ca MrR_en_mustref_SameWorld rfl rfl ((sameWorld_any _ (⟨a8.P, a8.B, a8.S, a8.M, a.T, a8.p, a8.b, a8.s, a8.m, a.t⟩ : Wd.At) { (marchW W l) with troops := W.troops } a W ⟨HO8.P.has, HO8.B.has, HO8.S.has, HO8.M.has, (hW.T.keep z_111), (by rw [hb1]; exact hW.nums)⟩ (hW.keep z_111)).mono ?_)
      rintro e w_115 ⟨rfl, x_116⟩
      refine ⟨_, rfl, ?_⟩
      have q_117 := x_116.size
      have z_115 := Ext.tr z_111 x_116
      refine vl (as_ rfl) rfl <| nl <| nT <| rt <| tR (.tmp rfl .nil) <| ?_
      exact ⟨ret_true (by rw [hb1]; simp), z_115⟩
theorem marchRight_any (c0 : Array Value) (a1 : Option Addr) (len1 cap1 : Nat) (w : World) (h0 : (.cons (.cons (.int .i64) (.cons (.int .i64) (.cons (.slice (.int .i64) 8) .nil))) (.cons (.slice (.cons (.int .i64) (.cons (.int .i64) .nil)) 16) (.cons (.slice (.int .i64) 8) (.cons (.slice (.int .i64) 8) (.cons (.slice (.cons (.int .i64) (.cons (.int .i64) (.cons (.int .i64) (.cons (.cons (.int .i64) (.cons (.int .i64) .nil)) (.cons (.int .i64) (.cons (.int .i64) .nil)))))) 56) (.cons (.int .i64) (.cons (.int .i64) .nil)))))) : Sh).Ok w c0.toList) (h1 : (.slice (.cons (.int .i64) (.cons (.cons (.int .i64) (.cons (.int .i64) .nil)) .nil)) 24 : Sh).Ok w [.slice a1 len1 cap1]) :
    Calls Try.prog 10 #[.agg c0, .slice a1 len1 cap1] w fun e w' => e = .returned (.bool true) ∧ Below w.heap.size w w' := by
  obtain ⟨a, W, e, hW⟩ := Wd.opens w _ (show Wd.sh.Ok w c0.toList from h0)
  have hc : c0 = (Wd.cells a W).toArray := by rw [← e]
  subst hc
  obtain ⟨A, c, l, e1, hl⟩ := Rep.opens_slice (R := Gox.rep) (by_ := 24) Gox.opens rfl (by decide) h1
  simp only [List.cons.injEq, Value.slice.injEq, and_true] at e1
  obtain ⟨rfl, rfl, rfl⟩ := e1
  exact marchRight_walk a W _ _ l w hW hl
end Go.Proofs.Ytffjpfpbpnhmcaa
