/-
  slices.IndexFunc, ContainsFunc, DeleteFunc over any closure. (Printed by bin/funcs.py.)
-/
import Derived.Test.YtkijhejjnlmbmaaGolC
import Derived.Test.YtkijhejjnlmbmaaWld
set_option linter.unusedVariables false
set_option linter.unusedSimpArgs false
namespace Go.Proofs.Ytkijhejjnlmbmaa
open Go.RowKit

theorem Fnc_sz_api_Troop : Sz Try.prog 51 7 := fun _ => by kernel_rfl
theorem Fnc_ag_api_Troop : Ag Try.prog 51 true := fun _ => by kernel_rfl
theorem Fnc_en_slices_IndexFunc_S_api_Troop_api_Troop_ : Enters Try.prog 109 := en Try.func109 (by kernel_rfl) (by kernel_rfl)
theorem Fnc_zv_api_Troop : Zv Try.prog 51 (.agg #[.int .i64 0, .int .i64 0, .int .i64 0, .int .i64 0, .int .i64 0, .int .i64 0, .int .i64 0]) := fun _ => by kernel_rfl
section
variable {α : Type} {p : α → Bool} {l L : List α} {d : α} {i j k : Nat}
theorem mem_dd (h : k < l.length) : l.getD k d ∈ l := by rw [List.getD_eq_getElem?_getD, List.getElem?_eq_getElem h]; exact List.getElem_mem h
theorem getD_dd (h : k < l.length) : l.getD k d = l[k] := by rw [List.getD_eq_getElem?_getD, List.getElem?_eq_getElem h]; rfl
theorem idx_none_dd (h : ∀ i, i < l.length → p (l.getD i d) = false) : idxI p l = -1 := idxI_none fun j hj => by rw [← getD_dd (d := d) hj]; exact h j hj
theorem idx_some_dd (hk : k < l.length) (h1 : p (l.getD k d) = true) (h : ∀ i, i < k → p (l.getD i d) = false) : idxI p l = (k : Int) :=
  idxI_some hk (by rw [← getD_dd (d := d) hk]; exact h1) fun j hj => by rw [← getD_dd (d := d) (by omega : j < l.length)]; exact h j hj
theorem take_succ_dd (h : k < l.length) : l.take (k + 1) = l.take k ++ [l.getD k d] := by rw [List.take_succ_eq_append_getElem h, getD_dd h]
theorem idx_nofilter (h : idxI p l = -1) : (l.filter fun x => !p x) = l := by
  rcases idxI_cases p l with ⟨_, hn⟩ | ⟨k, hk, e, _⟩
  · exact List.filter_eq_self.2 fun x hx => by rw [hn x hx]; rfl
  · omega
theorem idx_first (h : ¬ idxI p l = -1) : ∃ k, k < l.length ∧ idxI p l = (k : Int) ∧ l.take k = (l.take (k + 1)).filter fun x => !p x := by
  rcases idxI_cases p l with ⟨e, _⟩ | ⟨k, hk, e, hp, hn⟩
  · exact absurd e h
  · refine ⟨k, hk, e, ?_⟩
    rw [take_succ_dd (d := l[k]) hk, List.filter_append, getD_dd hk, List.filter_cons, hp]
    simp only [Bool.not_true, Bool.false_eq_true, if_false, List.filter_nil, List.append_nil]
    refine (List.filter_eq_self.2 fun x hx => ?_).symm
    obtain ⟨j, hj, rfl⟩ := List.mem_iff_getElem.1 hx
    rw [List.length_take] at hj
    rw [List.getElem_take, hn j (by omega)]; rfl
theorem suf_get (hL : j < L.length) (hj : j < l.length) (h : L.drop j = l.drop j) : L[j]? = some (l.getD j d) := by
  rw [getD_dd hj, List.getElem?_eq_getElem hL]
  have := congrArg List.head? h
  simp only [List.head?_drop, List.getElem?_eq_getElem hL, List.getElem?_eq_getElem hj] at this
  exact this
theorem drop_succ (h : L.drop j = l.drop j) : L.drop (j + 1) = l.drop (j + 1) := by
  have := congrArg (List.drop 1) h
  rwa [List.drop_drop, List.drop_drop] at this
theorem del_suf {x : α} (hi : i < j) (h : L.drop j = l.drop j) : (L.set i x).drop (j + 1) = l.drop (j + 1) := by
  rw [List.drop_set_of_lt (by omega)]; exact drop_succ h
theorem del_drop (hj : j < l.length) (h : L.take i = (l.take j).filter fun x => !p x) (hp : (!p (l.getD j d)) = false) : L.take i = (l.take (j + 1)).filter fun x => !p x := by
  rw [take_succ_dd (d := d) hj, List.filter_append, ← h, List.filter_cons, hp]; simp
theorem del_keep (hL : L.length = l.length) (hi : i < j) (hj : j < l.length) (h : L.take i = (l.take j).filter fun x => !p x) (hp : (!p (l.getD j d)) = true) : (L.set i (l.getD j d)).take (i + 1) = (l.take (j + 1)).filter fun x => !p x := by
  rw [take_succ_dd (d := d) hj, List.filter_append, ← h, List.filter_cons, hp]
  simp only [if_true, List.filter_nil]
  rw [List.take_succ_eq_append_getElem (by rw [List.length_set]; omega), List.take_set_of_le (by omega), List.getElem_set_self]
end
set_option maxRecDepth 100000 in
set_option maxHeartbeats 400000 in
theorem idxF_T (fC : FuncId) (cs : List Value) (p : Trp → Bool) (A : Option Addr) (c : Nat) (l : List Trp) (w : World) (hl : Trp.rep.SHas 56 w A c l) (hE : Enters Try.prog fC) (hC : ∀ x ∈ l, ∀ w', Ext w w' → Calls Try.prog fC (([.agg #[.int .i64 x.id, .int .i64 x.owner, .int .i64 x.kind, .int .i64 x.spot.x, .int .i64 x.spot.y, .int .i64 x.life, .int .i64 x.load]] : List Value) ++ cs).toArray w' fun e w'' => e = .returned (.bool (p x)) ∧ Ext w' w'') :
    Calls Try.prog 109 #[.slice A l.length c, .func (.func fC) #[] cs.toArray] w (fun e w' => e = .returned (.int .i64 (idxI p l)) ∧ Ext w w') := by
  have hll := hl.len_le
  refine calls_W (n := 19) Try.func109 rfl rfl rfl ?_
  refine sq <| rg <| vl (as_ rfl) rfl <| nl <| nT <| sq <| sq <| rg <| vl (mv rfl) rfl <| vl (ln Try.underlying44 rfl) rfl <| vl (mv rfl) rfl <| nl <| nT <| bk <| ?_
  refine lp (fun mI EI wI => ∃ k : Nat, EI = [(0, .slice A l.length c), (1, .func (.func fC) #[] cs.toArray), (7, .int .i64 (l.length : Int)), (8, .int .i64 (k : Int))] ∧ mI = l.length - k ∧ Ext w wI ∧ (k ≤ l.length) ∧ (∀ i, i < k → p (l.getD i default) = false)) _ _ ⟨0, rfl, rfl, (Ext.rf w), by omega, fun i hi => by omega⟩ (.cons rfl (.cons rfl (.cons rfl (.cons (loI rfl (by first | omega | rfl | (simp <;> omega))) .nil)))) ?_
  rintro m_2 E_3 w_1 ⟨k, rfl, rfl, z_1, hk, hg⟩
  have q_4 := z_1.size
  refine sq <| rg <| vl (blt rfl rfl) rfl <| nl <| nT <| sq <| ?_
  refine clt rfl (fun h_5 => ?_) (fun h_5 => ?_)
  · refine sk <| nT <| sq <| bk <| sq <| rg <| vl (mv rfl) rfl <| vl (as_ rfl) rfl <| nl <| nT <| sq <| rg <| vl (mv rfl) rfl <| vl (mv rfl) rfl <| vl (mv rfl) rfl <| vl (iA k Try.underlying44 Fnc_sz_api_Troop rfl rfl ((hl.keep z_1).adr (Nat.zero_lt_of_lt (show k < _ from (by omega)))) rfl (by omega)) rfl <| vl (ld rfl (Rep.SHas.elt hcT ((hl.keep z_1).adh (Nat.zero_lt_of_lt (show k < _ from (by omega)))) (get_d (l := l) (u := default) (by omega)) Fnc_ag_api_Troop Fnc_sz_api_Troop)) rfl <| cv hE rfl rfl rfl ((hC (l.getD k default) (mem_dd (by omega)) _ z_1).mono ?_)
    rintro e w_6 ⟨rfl, x_7⟩
    refine ⟨_, rfl, ?_⟩
    have q_8 := x_7.size
    have z_6 := Ext.tr z_1 x_7
    refine nl <| nT <| ?_
    refine cb rfl (fun h_9 => ?_) (fun h_9 => ?_)
    · refine sq <| rg <| vl (mv rfl) rfl <| vl (as_ rfl) rfl <| nl <| nT <| rt <| tB <| tT <| tK <| tB <| tT <| tR (.tmp rfl .nil) <| ?_
      exact ⟨by have e := idx_some_dd (p := p) (l := l) (d := default) (k := k) (by omega) h_9 hg; rw [e]; rfl, z_6⟩
    · refine sk <| nB <| nT <| rg <| vl (bad rfl rfl (inI (by omega))) rfl <| vl (mv rfl) rfl <| nl <| ?_
      exact nI _ _ ⟨k + 1, rfl, rfl, z_6, by omega, lt_succ_all hg h_9⟩ (by omega) (.cons rfl (.cons rfl (.cons rfl (.cons (loI rfl (by first | omega | rfl | (simp <;> omega))) .nil))))
  · refine xt <| xT <| xK <| xB <| nT <| sq <| rg <| vl (as_ rfl) rfl <| nl <| nT <| rt <| tR (.tmp rfl .nil) <| ?_
    exact ⟨by have e := idx_none_dd (p := p) (l := l) (d := default) (fun i hi => hg i (by omega)); rw [e]; rfl, z_1⟩
set_option maxRecDepth 100000 in
set_option maxHeartbeats 400000 in
theorem delF_T (w0 : World) (fC : FuncId) (cs : List Value) (p : Trp → Bool) (A : Option Addr) (c : Nat) (l : List Trp) (w : World) (hx0 : Ext w0 w) (hO : Trp.rep.SOwn 51 56 w w0.heap.size (Rep.blkOf A) A c l) (hE : Enters Try.prog fC) (hC : ∀ x ∈ l, ∀ w', Ext w0 w' → Calls Try.prog fC (([.agg #[.int .i64 x.id, .int .i64 x.owner, .int .i64 x.kind, .int .i64 x.spot.x, .int .i64 x.spot.y, .int .i64 x.life, .int .i64 x.load]] : List Value) ++ cs).toArray w' fun e w'' => e = .returned (.bool (p x)) ∧ Ext w' w'') :
    Calls Try.prog 65 #[.slice A l.length c, .func (.func fC) #[] cs.toArray] w (fun e w' => e = .returned (.slice A (l.filter fun x => !p x).length c) ∧ Trp.rep.SOwn 51 56 w' w0.heap.size (Rep.blkOf A) A c (l.filter fun x => !p x) ∧ Mod (Rep.blkOf A) w w') := by
  have hl0 := hO.has
  have hll := hl0.len_le
  have hlc := hl0.1
  have uA := fun q hq => (hO.lt q hq).2
  have lA := fun q hq => (hO.lt q hq).1
  have lA2 : ∀ q ∈ Rep.blkOf A, w0.heap.size ≤ q := lA
  have hx0s := hx0.size
  refine calls_W (n := 42) Try.func65 rfl rfl rfl ?_
  refine sq <| rg <| vl (as_ rfl) rfl <| nl <| nT <| sq <| rg <| vl (mv rfl) rfl <| vl (mv rfl) rfl <| ca Fnc_en_slices_IndexFunc_S_api_Troop_api_Troop_ rfl rfl ((idxF_T fC cs p _ _ l _ hO.has hE (fun x hx w' h => hC x hx w' (Ext.tr (Ext.mod hx0 (Mod.rf (Rep.blkOf A) w) lA) h))).mono ?_)
  rintro e w_1 ⟨rfl, x_2⟩
  refine ⟨_, rfl, ?_⟩
  have q_3 := x_2.size
  have z_1 := (Mod.rf (Rep.blkOf A) w).trans (Mod.of_ext x_2)
  refine vl (as_ rfl) rfl <| nl <| nT <| sq <| sq <| rg <| vl (mv rfl) rfl <| vl (beq rfl rfl) rfl <| nl <| nT <| ?_
  refine ceq rfl (fun h_4 => ?_) (fun h_4 => ?_)
  · refine sq <| rg <| vl (mv rfl) rfl <| vl (as_ rfl) rfl <| nl <| nT <| rt <| tT <| tR (.tmp rfl .nil) <| ?_
    have hO := hO.later x_2
    have e1 := idx_nofilter (by simpa using h_4)
    exact ⟨by rw [e1]; rfl, by rw [e1]; exact hO, z_1⟩
  · obtain ⟨k0, hk0, e0, hm0⟩ := idx_first h_4
    refine sk <| nT <| sq <| sq <| rg <| vl (mv rfl) rfl <| vl (bad rfl rfl (inI (by omega))) rfl <| vl (as_ rfl) rfl <| nl <| nT <| bk <| ?_
    have hO := hO.later x_2
    refine lp (fun mI EI wI => ∃ L : List Trp, ∃ i : Nat, ∃ j : Nat, EI = [(0, .slice A l.length c), (1, .func (.func fC) #[] cs.toArray), (4, .slice none 0 0), (5, .int .i64 (i : Int)), (6, .int .i64 (j : Int))] ∧ mI = l.length - j ∧ Mod (Rep.blkOf A) w wI ∧ Trp.rep.SOwn 51 56 wI w0.heap.size (Rep.blkOf A) A c (L) ∧ (L.length = l.length) ∧ (i < j) ∧ (j ≤ l.length) ∧ (L.take i = (l.take j).filter fun x => !p x) ∧ (L.drop j = l.drop j)) _ _ ⟨l, k0, k0 + 1, rfl, rfl, z_1, hO, rfl, by omega, by omega, hm0, rfl⟩ (.cons rfl (.cons rfl (.cons rfl (.cons (loI rfl (by first | omega | rfl | (simp <;> omega))) (.cons (loI rfl (by first | omega | rfl | (simp <;> omega))) .nil))))) ?_
    rintro m_6 E_7 w_5 ⟨L, i, j, rfl, rfl, z_5, O1, hL, hi, hj, hpre, hsuf⟩
    have q_8 := z_5.size
    have u_9 := fun q hq => (O1.lt q hq).2
    refine sq <| sq <| rg <| vl (mv rfl) rfl <| vl (mv rfl) rfl <| vl (ln Try.underlying44 rfl) rfl <| vl (blt rfl rfl) rfl <| nl <| nT <| ?_
    refine clt rfl (fun h_10 => ?_) (fun h_10 => ?_)
    · refine sk <| nT <| sq <| bk <| sq <| rg <| vl (mv rfl) rfl <| vl (mv rfl) rfl <| vl (iA j Try.underlying44 Fnc_sz_api_Troop rfl rfl (O1.has.adr (Nat.zero_lt_of_lt (show j < _ from (by omega)))) rfl (by omega)) rfl <| vl (ld rfl (Rep.SHas.elt hcT (O1.has.adh (Nat.zero_lt_of_lt (show j < _ from (by omega)))) (suf_get (d := default) (by omega) (by omega) hsuf) Fnc_ag_api_Troop Fnc_sz_api_Troop)) rfl <| al rfl Fnc_zv_api_Troop rfl rfl fun w_11 b_12 x_13 l_14 B_15 => ?_
      have q_16 := x_13.size
      have z_11 := z_5.trans (Mod.of_ext x_13)
      have q_17 := B_15.lt
      refine st (new := [.int .i64 ((l.getD j default).id), .int .i64 ((l.getD j default).owner), .int .i64 ((l.getD j default).kind), .int .i64 ((l.getD j default).spot.x), .int .i64 ((l.getD j default).spot.y), .int .i64 ((l.getD j default).life), .int .i64 ((l.getD j default).load)]) rfl rfl B_15 rfl Fnc_sz_api_Troop rfl rfl rfl fun w_18 m_19 B_15 => ?_
      have q_21 := m_19.size
      have z_18 := z_11.md m_19 (fun q hq => .inr (by have := List.mem_singleton.1 hq; omega))
      have q_20 := m_19.size
      refine nl <| nT <| sq <| rg <| vl (mv rfl) rfl <| vl (ld rfl (B_15.all Fnc_ag_api_Troop Fnc_sz_api_Troop)) rfl <| cv hE rfl rfl rfl ((hC (l.getD j default) (mem_dd (by omega)) _ (Ext.mod hx0 z_18 lA)).mono ?_)
      rintro e w_22 ⟨rfl, x_23⟩
      refine ⟨_, rfl, ?_⟩
      have q_24 := x_23.size
      have z_22 := z_18.trans (Mod.of_ext x_23)
      refine vl (nt rfl) rfl <| nl <| nT <| ?_
      refine cb rfl (fun h_25 => ?_) (fun h_25 => ?_)
      · refine sq <| rg <| vl (mv rfl) rfl <| vl (mv rfl) rfl <| ?_
        have B_15 := B_15.later x_23
        refine vl (ld rfl (B_15.all Fnc_ag_api_Troop Fnc_sz_api_Troop)) rfl <| ?_
        have O1 := O1.later x_13
        have O1 := O1.mod m_19 (fun q hq h => by have hb := List.mem_singleton.1 h; exfalso; (have := u_9 q hq; omega))
        have O1 := O1.later x_23
        refine vl (iA i Try.underlying44 Fnc_sz_api_Troop rfl rfl (O1.has.adr (Nat.zero_lt_of_lt (show i < _ from (by omega)))) rfl (by omega)) rfl <| soE (q' := l.getD j default) (i := i) (es := [.int .i64 ((l.getD j default).id), .int .i64 ((l.getD j default).owner), .int .i64 ((l.getD j default).kind), .int .i64 ((l.getD j default).spot.x), .int .i64 ((l.getD j default).spot.y), .int .i64 ((l.getD j default).life), .int .i64 ((l.getD j default).load)]) O1 Rep.flat_bare (by omega) rfl rfl rfl rfl (fun _ => ⟨rfl, (Trp.all_ok hl0 _ (mem_dd (by omega)))⟩) Fnc_sz_api_Troop fun w_26 m_27 O_28 => ?_
        have q_29 := m_27.size
        have z_26 := z_22.md m_27 (fun q hq => .inl hq)
        have q_30 := m_27.size
        refine nl <| nT <| rg <| vl (mv rfl) rfl <| vl (bad rfl rfl (inI (by omega))) rfl <| vl (as_ rfl) rfl <| nl <| nB <| nT <| rg <| vl (mv rfl) rfl <| vl (bad rfl rfl (inI (by omega))) rfl <| vl (as_ rfl) rfl <| nl <| ?_
        exact nI _ _ ⟨(L).set i (l.getD j default), i + 1, j + 1, rfl, rfl, z_26, O_28, by rw [List.length_set]; exact hL, by omega, by omega, del_keep hL (by omega) (by omega) hpre h_25, del_suf (by omega) hsuf⟩ (by omega) (.cons rfl (.cons rfl (.cons rfl (.cons (loI rfl (by first | omega | rfl | (simp <;> omega))) (.cons (loI rfl (by first | omega | rfl | (simp <;> omega))) .nil)))))
      · refine sk <| nB <| nT <| rg <| vl (mv rfl) rfl <| vl (bad rfl rfl (inI (by omega))) rfl <| vl (as_ rfl) rfl <| nl <| ?_
        have O1 := O1.later x_13
        have O1 := O1.mod m_19 (fun q hq h => by have hb := List.mem_singleton.1 h; exfalso; (have := u_9 q hq; omega))
        have O1 := O1.later x_23
        exact nI _ _ ⟨L, i, j + 1, rfl, rfl, z_22, O1, hL, by omega, by omega, del_drop (by omega) hpre h_25, drop_succ hsuf⟩ (by omega) (.cons rfl (.cons rfl (.cons rfl (.cons rfl (.cons (loI rfl (by first | omega | rfl | (simp <;> omega))) .nil)))))
    · refine xt <| xT <| xK <| xB <| nT <| sq <| rg <| vl (mv rfl) rfl <| vl (mv rfl) rfl <| vl (sT i Try.underlying44 Fnc_sz_api_Troop rfl rfl rfl (by omega)) rfl <| cl (k := i) (q := l.length - i) (z := Trp.zero) (m := 7) Try.underlying44 Trp.info rfl (by decide) rfl (by decide) Trp.zero_raw (show Trp.rep.SOwn _ _ _ _ _ _ _ L from O1) Rep.flat_bare (by omega) (by omega) (by omega) (hO.block (by omega)) rfl fun w_31 m_32 O_33 => ?_
      have q_34 := m_32.size
      have z_31 := z_5.md m_32 (fun q hq => .inl hq)
      refine nl <| nT <| sq <| rg <| vl (mv rfl) rfl <| vl (mv rfl) rfl <| vl (sP i i Try.underlying44 Fnc_sz_api_Troop rfl rfl rfl (by omega) rfl) rfl <| vl (as_ rfl) rfl <| nl <| nT <| rt <| tR (.tmp rfl .nil) <| ?_
      obtain rfl : j = l.length := by omega
      rw [List.take_length] at hpre
      have hli : (l.filter fun x => !p x).length = i := by rw [← hpre, List.length_take]; omega
      exact ⟨by rw [hli]; rfl, by rw [← hpre]; exact O_33, z_31⟩
end Go.Proofs.Ytkijhejjnlmbmaa
