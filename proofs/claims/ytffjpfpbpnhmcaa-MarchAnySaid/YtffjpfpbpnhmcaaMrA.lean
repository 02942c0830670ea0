import Derived.Test.YtffjpfpbpnhmcaaMrL
import Derived.Test.YtffjpfpbpnhmcaaCrt
set_option linter.unusedVariables false
set_option linter.unusedSimpArgs false
namespace Go.Proofs.Ytffjpfpbpnhmcaa
open Go.RowKit

theorem MrA_sz_api_Go : Sz Try.prog 53 3 := fun _ => by kernel_rfl
theorem MrA_ag_api_Go : Ag Try.prog 53 true := fun _ => by kernel_rfl
theorem MrA_en_slices_IndexFunc_S_api_Go_api_Go_ : Enters Try.prog 37 := en Try.func37 (by kernel_rfl) (by kernel_rfl)
theorem MrA_fd_api_Go_0 : Fd Try.prog 53 0 0 := fun _ _ _ => by kernel_rfl
theorem MrA_ag_int : Ag Try.prog 3 false := fun _ => by kernel_rfl
theorem MrA_en_slices_Clone_S_api_Go_api_Go_ : Enters Try.prog 26 := en Try.func26 (by kernel_rfl) (by kernel_rfl)
theorem MrA_en_slices_Reverse_S_api_Go_api_Go_ : Enters Try.prog 27 := en Try.func27 (by kernel_rfl) (by kernel_rfl)
theorem MrA_ag_api_World : Ag Try.prog 49 true := fun _ => by kernel_rfl
theorem MrA_sz_api_World : Sz Try.prog 49 9 := fun _ => by kernel_rfl
theorem MrA_en_march_Step : Enters Try.prog 28 := en Try.func28 (by kernel_rfl) (by kernel_rfl)
theorem MrA_zv_api_World : Zv Try.prog 49 (.agg #[.int .i64 0, .int .i64 0, .slice none 0 0, .slice none 0 0, .slice none 0 0, .slice none 0 0, .slice none 0 0, .int .i64 0, .int .i64 0]) := fun _ => by kernel_rfl
theorem MrA_en_mustkeep_marchLives : Enters Try.prog 29 := en Try.func29 (by kernel_rfl) (by kernel_rfl)
theorem MrA_zv_api_Go : Zv Try.prog 53 (.agg #[.int .i64 0, .int .i64 0, .int .i64 0]) := fun _ => by kernel_rfl
theorem MrA_en_mustkeep_MarchAny_1 : Enters Try.prog 31 := en Try.func31 (by kernel_rfl) (by kernel_rfl)
theorem MrA_en_slices_ContainsFunc_S_api_Go_api_Go_ : Enters Try.prog 30 := en Try.func30 (by kernel_rfl) (by kernel_rfl)
theorem MrA_en_mustref_SameWorld : Enters Try.prog 32 := en Try.func32 (by kernel_rfl) (by kernel_rfl)
theorem MrA_en_slices_Equal_S_int_int_ : Enters Try.prog 33 := en Try.func33 (by kernel_rfl) (by kernel_rfl)
theorem gox_reads {l m : List Gox} (hd : ∀ i, i < l.length → ∀ j, j < i → (l.getD j default).id ≠ (l.getD i default).id) (h1 : ∀ g ∈ l, g ∈ m) (h2 : ∀ g ∈ m, g ∈ l) (id : Int) :
    (goK l id < 0 ↔ goK m id < 0) ∧ (0 ≤ goK l id → l.getD (goK l id).toNat default = m.getD (goK m id).toNat default) := by
  rcases goK_cases l id with ⟨e1, n1⟩ | ⟨k, hk, e1, n1, _⟩ <;> rcases goK_cases m id with ⟨e2, n2⟩ | ⟨k', hk', e2, n2, _⟩
  · exact ⟨by omega, fun h => by omega⟩
  · exact absurd n2 (n1 _ (h2 _ (mem_dd hk')))
  · exact absurd n1 (n2 _ (h1 _ (mem_dd hk)))
  · refine ⟨by omega, fun _ => ?_⟩
    rw [e1, e2]
    simp only [Int.toNat_natCast]
    obtain ⟨j, hj, e⟩ := List.getElem_of_mem (h2 _ (mem_dd (d := default) hk'))
    have e3 : l.getD j default = m.getD k' default := by rw [List.getD_eq_getElem?_getD, List.getElem?_eq_getElem hj]; exact e
    rw [← e3] at n2 ⊢
    rcases Nat.lt_trichotomy j k with h | h | h
    · exact absurd (n2.trans n1.symm) (hd k hk j h)
    · rw [h]
    · exact absurd (n1.trans n2.symm) (hd j hj k h)
theorem stS_congr {f : Fld} {l m : List Gox} {T : List Trp} (h : ∀ id, (goK l id < 0 ↔ goK m id < 0) ∧ (0 ≤ goK l id → l.getD (goK l id).toNat default = m.getD (goK m id).toNat default)) : ∀ k, stS f l T k = stS f m T k
  | 0 => rfl
  | k + 1 => by
    have ih := stS_congr (f := f) (T := T) h k
    have e : step1 f l (stS f l T k).1 k = step1 f m (stS f m T k).1 k := by
      rw [ih]
      obtain ⟨h1, h2⟩ := h ((stS f m T k).1.getD k default).id
      unfold step1
      by_cases h3 : goK l ((stS f m T k).1.getD k default).id < 0
      · rw [if_pos h3, if_pos (h1.1 h3)]
      · rw [if_neg h3, if_neg (fun q => h3 (h1.2 q)), h2 (by omega)]
    show (match step1 f l (stS f l T k).1 k with | none => _ | some c => _) = (match step1 f m (stS f m T k).1 k with | none => _ | some c => _)
    rw [e, ih]
theorem march_any_order {W : Wd} {l : List Gox} (hd : ∀ i, i < l.length → ∀ j, j < i → (l.getD j default).id ≠ (l.getD i default).id) : marchE W l.reverse = marchE W l ∧ marchW W l.reverse = marchW W l ∧ marchM W l.reverse = marchM W l := by
  have e1 : marchE W l.reverse = marchE W l := by unfold marchE; rw [List.length_reverse]
  have e2 : W.stepped l.reverse = W.stepped l := by
    unfold Wd.stepped
    rw [stS_congr (l := l) (m := l.reverse) (gox_reads hd (fun g h => by simpa using h) (fun g h => by simpa using h))]
  refine ⟨e1, ?_, ?_⟩
  · unfold marchW; rw [e1, e2]
  · unfold marchM; rw [e1, e2]
theorem mstep_len (a : Wd.At) (W : Wd) (A : Option Addr) (c n : Nat) (l : List Gox) (hn : l.length = n) (w : World) (hW : Wd.Has w a W) (hl : Gox.rep.SHas 24 w A c l) :
    Calls Try.prog 28 #[.agg (Wd.cells a W).toArray, .slice A n c] w (fun e w' => ∃ a' A' c', e = .returned (.tuple #[.agg (Wd.cells a' (marchW W l)).toArray, .slice A' (marchM W l).length c', .int .i64 (marchE W l)]) ∧ WOwn w' w.heap.size a' (marchW W l) ∧ repI.SOwn 3 8 w' w.heap.size (Rep.blkOf A') A' c' (marchM W l) ∧ (∀ q ∈ Rep.blkOf A', q ∉ WOwn.foot a') ∧ Ext w w') := by
  subst hn; exact mstep_any a W A c l w hW hl
theorem ids_succ {l : List Gox} {k : Nat} (hk : k < l.length) (h : ∀ i, i < k → ∀ j, j < i → (l.getD j default).id ≠ (l.getD i default).id) (h2 : (l.take k).any (fun o => o.id == (l.getD k default).id) = false) : ∀ i, i < k + 1 → ∀ j, j < i → (l.getD j default).id ≠ (l.getD i default).id := by
  intro i hi j hj
  by_cases e : i < k
  · exact h i e j hj
  · obtain rfl : i = k := by omega
    rw [List.any_eq_false] at h2
    have := h2 (l.getD j default) (by
      rw [List.getD_eq_getElem?_getD, List.getElem?_eq_getElem (by omega : j < l.length)]
      exact List.mem_of_getElem? (i := j) (by rw [List.getElem?_take, if_pos hj, List.getElem?_eq_getElem (by omega)]; rfl))
    simpa using this
set_option maxRecDepth 100000 in
set_option maxHeartbeats 1000000 in
theorem clone_G (A : Option Addr) (c : Nat) (l : List Gox) (w : World) (h : Gox.rep.SHas 24 w A c l) :
    Calls Try.prog 26 #[.slice A l.length c] w fun e w' => ∃ A' c', e = .returned (.slice A' l.length c') ∧ Gox.rep.SOwn 53 24 w' w.heap.size (Rep.blkOf A') A' c' l ∧ (A' = none ↔ A = none) ∧ Below w.heap.size w w' := by
  obtain ⟨i0, hi, hz0, hz1, hz2⟩ := info_parts Gox.info
  have qnil : ∀ (w : World) (a : Option Addr) (n c n' c' : Nat), (binOp .eql 50 (.slice a n c) (.slice none n' c')).run Try.prog w = .ok (.bool a.isNone) w := fun w a n c n' c' => Lib.run_eql_slice_nil w _ _ a n c n' c' Try.underlying50
  cases A with
  | none =>
    obtain rfl : c = 0 := h.2.2.2.1 rfl
    obtain rfl : l = [] := List.eq_nil_of_length_eq_zero (by have := h.1; omega)
    go_enter Try.func26, Try.ntmps26
    go_wp2_with fail
    go_ret
    exact ⟨none, 0, rfl, Rep.SOwn.nil _, by simp, Below.refl _ _⟩
  | some a =>
    have hb0 : Below w.heap.size w (w.alloc (.cells #[] 53)) := (Below.refl _ w).alloc (Nat.le_refl _) _
    obtain ⟨n, HN⟩ : ∃ n, Hid (l.length = n) := ⟨_, Lib.hid rfl⟩
    obtain ⟨h1, h2, h3, h4, ess, h5, h6⟩ := h.keep hb0
    have H5 := Lib.hid h5
    have hone : ∀ u ∈ ess.flatten, u.oneCell' = true := by
      intro u hu
      obtain ⟨y, hy, hu⟩ := List.mem_flatten.1 hu
      obtain ⟨a, ha⟩ := h5.left y hy
      exact Gox.rep.one ha u hu
    have hraw : ∀ (j : Nat) u, ess.flatten[j]? = some u → Gox.rep.raw (j % Gox.rep.size) u := fun j u hu => flat_raw h5 (by decide) hu
    rw [HN.out] at h1 h3 h6
    have HR := Lib.hid h6
    have HE := Lib.hid (Own.empty (e := 53) (size := Gox.rep.size) (G := Gox.rep.raw) w (Nat.le_refl w.heap.size))
    clear h h4 h5 h6
    rw [HN.out]
    go_enter Try.func26, Try.ntmps26
    go_wp2_with (at_builtin; refine wpList_append_all _ rfl _ _ 50 rfl w.heap.size 53 i0 Gox.zero Gox.rep.size 24 Try.underlying50 hi hz0 hz1 hz2 rfl (by decide) Gox.rep.raw Gox.zero_raw _ _ _ rfl HE.out (some a) n c ess.flatten rfl HR.out hone hraw ?qc4 ?qc5 ?qc6 ?_)
    case qc4 => unfold maxLen; omega
    case qc5 => omega
    case qc6 => simp
    intro v' w1 hown hgrow hnil hat
    have hb1 := hb0.grown hgrow (by simp) (by intro k hk; simp [Value.ownBlock] at hk; omega)
    obtain ⟨A1, c1, rfl, hle, _, _, _, hnn⟩ := hown.shape
    have hA1 : A1 ≠ none := by
      intro h
      subst h
      exact hnil (hnn rfl)
    have HO : Hid (Gox.rep.SOwn 53 24 w1 w.heap.size (Rep.blkOf A1) A1 c1 l) := Lib.hid (Rep.SOwn.of_plain Gox.plain H5.out (by rw [HN.out]; exact h3) (by rw [HN.out]; simpa using hown))
    have HA1 := Lib.hid hA1
    clear hgrow hnil hat hown hA1 hnn hone hraw
    go_wp2_with fail
    go_ret
    exact ⟨A1, c1, rfl, HO.out, ⟨fun h => absurd h HA1.out, fun h => by cases h⟩, hb1⟩
set_option maxRecDepth 100000 in
set_option maxHeartbeats 400000 in
theorem reverse_G (A : Option Addr) (c Z : Nat) (l : List Gox) (w : World) (HO : Gox.rep.SOwn 53 24 w Z (Rep.blkOf A) A c (l)) (hok : ∀ y ∈ l, y.ok) :
    Calls Try.prog 27 #[.slice A l.length c] w (fun e w' => e = .returned (.tuple #[]) ∧ Gox.rep.SOwn 53 24 w' Z (Rep.blkOf A) A c (l.reverse) ∧ Mod (Rep.blkOf A) w w') := by
  have uO := fun q hq => (HO.lt q hq).2
  have hl63 := HO.has.len_le
  refine calls_W (n := 28) Try.func27 rfl rfl rfl ?_
  refine sq <| rg <| vl (mv rfl) rfl <| vl (ln Try.underlying50 rfl) rfl <| vl (bsu rfl rfl (inI (by omega))) rfl <| vl (as_ rfl) rfl <| vl (as_ rfl) rfl <| nl <| nT <| bk <| ?_
  refine lp (fun mI EI wI => ∃ k : Nat, ∃ J : Int, EI = [(0, .slice A l.length c), (2, .int .i64 (k : Int)), (3, .int .i64 J)] ∧ mI = (l.length - k) ∧ Mod (Rep.blkOf A) w wI ∧ Gox.rep.SOwn 53 24 wI Z (Rep.blkOf A) A c (Rv.rv l k) ∧ (J = (l.length : Int) - 1 - (k : Int)) ∧ (2 * k ≤ l.length)) _ _ ⟨0, ((l.length : Int) - 1), rfl, rfl, (Mod.rf (Rep.blkOf A) w), HO, by omega, by omega⟩ (.cons rfl (.cons (loI rfl (by first | omega | rfl | (simp <;> omega))) (.cons (loI rfl (by first | omega | rfl | (simp <;> omega))) .nil))) ?_
  rintro m_2 E_3 w_1 ⟨k, J, rfl, rfl, z_1, HR, hJ, hk⟩
  have q_4 := z_1.size
  have u_5 := fun q hq => (HR.lt q hq).2
  have hlr : (Rv.rv l k).length = l.length := Rv.rv_len
  have hokr : ∀ y ∈ Rv.rv l k, y.ok := fun y hy => hok y ((Rv.rv_perm k (by omega)).subset hy)
  refine sq <| sq <| rg <| vl (mv rfl) rfl <| vl (mv rfl) rfl <| vl (blt rfl rfl) rfl <| nl <| nT <| ?_
  refine clt rfl (fun h_6 => ?_) (fun h_6 => ?_)
  · refine sk <| nT <| sq <| bk <| ?_
    refine rd [(7, 0), (11, 0), (13, 3), (15, 3)] [0, 1, 2, 3, 4, 5, 6, 7, 8, 9, 10, 11, 12, 13, 14, 15] (by kernel_rfl) (by kernel_rfl) ?_
    refine fw rfl rfl (fun _ => mv rfl) rfl <| fw rfl rfl (fun _ => mv rfl) rfl <| fw rfl rfl (fun _ => mv rfl) rfl <| fw rfl rfl (fun _ => mv rfl) rfl <| fw rfl rfl (fun _ => mv rfl) rfl <| fw rfl rfl (fun _ => mv rfl) rfl <| fw rfl rfl (fun _ => iA J.toNat Try.underlying50 MrA_sz_api_Go rfl rfl (HR.has.adr (Nat.zero_lt_of_lt (show J.toNat < _ from (by first | omega | (rw [List.length_set]; omega))))) (by omega) (by first | omega | (rw [List.length_set]; omega))) rfl <| fq rfl rfl (fun _ x => ld rfl (Rep.SHas.elt hcGo ((HR.later x).has.adh (Nat.zero_lt_of_lt (show J.toNat < _ from (by first | omega | (rw [List.length_set]; omega))))) (get_d (l := Rv.rv l k) (u := default) (by first | omega | (rw [List.length_set]; omega))) MrA_ag_api_Go MrA_sz_api_Go)) rfl <| fw rfl rfl (fun _ => mv rfl) rfl <| fw rfl rfl (fun _ => mv rfl) rfl <| fw rfl rfl (fun _ => iA k Try.underlying50 MrA_sz_api_Go rfl rfl (HR.has.adr (Nat.zero_lt_of_lt (show k < _ from (by first | omega | (rw [List.length_set]; omega))))) rfl (by first | omega | (rw [List.length_set]; omega))) rfl <| fq rfl rfl (fun _ x => ld rfl (Rep.SHas.elt hcGo ((HR.later x).has.adh (Nat.zero_lt_of_lt (show k < _ from (by first | omega | (rw [List.length_set]; omega))))) (get_d (l := Rv.rv l k) (u := default) (by first | omega | (rw [List.length_set]; omega))) MrA_ag_api_Go MrA_sz_api_Go)) rfl <| fw rfl rfl (fun _ => iA k Try.underlying50 MrA_sz_api_Go rfl rfl (HR.has.adr (Nat.zero_lt_of_lt (show k < _ from (by first | omega | (rw [List.length_set]; omega))))) rfl (by first | omega | (rw [List.length_set]; omega))) rfl <| fb rfl rfl rfl fun w_7 x_8 Q hK => soE (q' := (Rv.rv l k).getD J.toNat default) (i := k) (es := [.int .i64 (((Rv.rv l k).getD J.toNat default).id), .int .i64 (((Rv.rv l k).getD J.toNat default).to.x), .int .i64 (((Rv.rv l k).getD J.toNat default).to.y)]) (HR.later x_8) Rep.flat_bare (by first | omega | (rw [List.length_set]; omega)) rfl rfl rfl rfl (fun _ => ⟨rfl, (hokr _ (mem_dd (by omega)))⟩) MrA_sz_api_Go fun w_9 m_10 O_11 => hK _ _ ?_
    have q_12 := x_8.size
    have z_7 := z_1.trans (Mod.of_ext x_8)
    have q_13 := m_10.size
    have z_9 := z_7.md m_10 (fun q hq => .inl hq)
    have q_14 := m_10.size
    refine fw rfl rfl (fun _ => iA J.toNat Try.underlying50 MrA_sz_api_Go rfl rfl (O_11.has.adr (Nat.zero_lt_of_lt (show J.toNat < _ from (by first | omega | (rw [List.length_set]; omega))))) (by omega) (by first | omega | (rw [List.length_set]; omega))) rfl <| fb rfl rfl rfl fun w_15 x_16 Q hK => soE (q' := (Rv.rv l k).getD k default) (i := J.toNat) (es := [.int .i64 (((Rv.rv l k).getD k default).id), .int .i64 (((Rv.rv l k).getD k default).to.x), .int .i64 (((Rv.rv l k).getD k default).to.y)]) (O_11.later x_16) Rep.flat_bare (by first | omega | (rw [List.length_set]; omega)) rfl rfl rfl rfl (fun _ => ⟨rfl, (hokr _ (mem_dd (by omega)))⟩) MrA_sz_api_Go fun w_17 m_18 O_19 => hK _ _ ?_
    have q_20 := x_16.size
    have z_15 := z_9.trans (Mod.of_ext x_16)
    have q_21 := m_18.size
    have z_17 := z_15.md m_18 (fun q hq => .inl hq)
    have q_22 := m_18.size
    refine fn fun w_23 x_24 => ?_
    have q_25 := x_24.size
    have z_23 := z_17.trans (Mod.of_ext x_24)
    refine nB <| nT <| rg <| vl (mv rfl) rfl <| vl (bad rfl rfl (inI (by omega))) rfl <| vl (mv rfl) rfl <| vl (bsu rfl rfl (inI (by omega))) rfl <| vl (as_ rfl) rfl <| vl (as_ rfl) rfl <| nl <| ?_
    have O_19 := O_19.later x_24
    exact nI _ _ ⟨k + 1, (J - 1), rfl, rfl, z_23, (by have h := O_19; rw [show J.toNat = l.length - 1 - k by omega] at h; exact h), by omega, by omega⟩ (by omega) (.cons rfl (.cons (loI rfl (by first | omega | rfl | (simp <;> omega))) (.cons (loI rfl (by first | omega | rfl | (simp <;> omega))) .nil)))
  · refine xt <| xT <| xK <| xB <| ne <| tR .nil <| ?_
    exact ⟨rfl, by have h := HR; rw [Rv.rv_end (by omega) (by omega)] at h; exact h, z_1⟩
set_option maxRecDepth 100000 in
set_option maxHeartbeats 400000 in
theorem hasF_G (fC : FuncId) (cs : List Value) (p : Gox → Bool) (A : Option Addr) (c : Nat) (l : List Gox) (w : World) (hl : Gox.rep.SHas 24 w A c l) (hE : Enters Try.prog fC) (hC : ∀ x ∈ l, ∀ w', Ext w w' → Calls Try.prog fC (([.agg #[.int .i64 x.id, .int .i64 x.to.x, .int .i64 x.to.y]] : List Value) ++ cs).toArray w' fun e w'' => e = .returned (.bool (p x)) ∧ Ext w' w'') :
    Calls Try.prog 30 #[.slice A l.length c, .func (.func fC) #[] cs.toArray] w (fun e w' => e = .returned (.bool (l.any p)) ∧ Ext w w') := by
  refine calls_W (n := 9) Try.func30 rfl rfl rfl ?_
  refine sq <| rg <| vl (as_ rfl) rfl <| nl <| nT <| sq <| rg <| vl (mv rfl) rfl <| vl (mv rfl) rfl <| ca MrA_en_slices_IndexFunc_S_api_Go_api_Go_ rfl rfl ((idxF_G fC cs p _ _ l _ (hl.keep (Ext.rf w)) hE (fun x hx w' h => hC x hx w' (Ext.tr (Ext.rf w) h))).mono ?_)
  rintro e w_1 ⟨rfl, x_2⟩
  refine ⟨_, rfl, ?_⟩
  have q_3 := x_2.size
  have z_1 := Ext.tr (Ext.rf w) x_2
  refine vl (bge rfl rfl) rfl <| vl (as_ rfl) rfl <| nl <| nT <| rt <| tR (.tmp rfl .nil) <| ?_
  exact ⟨by rw [idxI_any]; rfl, z_1⟩
set_option maxRecDepth 100000 in
set_option maxHeartbeats 400000 in
theorem many_same (pt g : Gox) (b : Nat) (w : World) (HB : Blk w b [.int .i64 g.id, .int .i64 g.to.x, .int .i64 g.to.y] 53 (0, 0)) :
    Calls Try.prog 31 #[.agg #[.int .i64 pt.id, .int .i64 pt.to.x, .int .i64 pt.to.y], .pointer (some ⟨b, 0, none⟩)] w (fun e w' => e = .returned (.bool (pt.id == g.id)) ∧ Ext w w') := by
  have qB := HB.lt
  refine calls_W (n := 9) Try.func31 rfl rfl rfl ?_
  refine sq <| rg <| bx rfl rfl rfl rfl fun w_1 b_2 x_3 l_4 B_5 => ?_
  have q_6 := x_3.size
  have z_1 := Ext.tr (Ext.rf w) x_3
  have q_7 := B_5.lt
  refine vl (as_ rfl) rfl <| nl <| nT <| sq <| rg <| vl (fa MrA_fd_api_Go_0 rfl) rfl <| vl (ld rfl (B_5.one MrA_ag_int rfl)) rfl <| vl (fa MrA_fd_api_Go_0 rfl) rfl <| ?_
  have HB := HB.later x_3
  refine vl (ld rfl (HB.one MrA_ag_int rfl)) rfl <| vl (beq rfl rfl) rfl <| vl (as_ rfl) rfl <| nl <| nT <| rt <| tR (.tmp rfl .nil) <| ?_
  exact ⟨rfl, z_1⟩
set_option maxRecDepth 100000 in
set_option maxHeartbeats 400000 in
theorem marchAny_walk (a : Wd.At) (W : Wd) (A : Option Addr) (c : Nat) (l : List Gox) (w : World) (hW : Wd.Has w a W) (hl : Gox.rep.SHas 24 w A c l) :
    Calls Try.prog 9 #[.agg ((Wd.cells a W).toArray), .slice A l.length c] w (fun e w' => e = .returned (.bool true) ∧ Ext w w') := by
  have hlc := hl.1
  have hl63 := hl.len_le
  refine calls_W (n := 69) Try.func9 rfl rfl rfl ?_
  refine sq <| rg <| bx rfl rfl rfl rfl fun w_1 b_2 x_3 l_4 B_5 => ?_
  have q_6 := x_3.size
  have z_1 := Ext.tr (Ext.rf w) x_3
  have q_7 := B_5.lt
  refine vl (as_ rfl) rfl <| nl <| nT <| sq <| rg <| vl (mv rfl) rfl <| ca MrA_en_slices_Clone_S_api_Go_api_Go_ rfl rfl ((clone_G _ _ l _ (hl.keep z_1)).mono ?_)
  rintro e w_11 ⟨A8, c8, rfl, OC8, hn8, x_12⟩
  refine ⟨_, rfl, ?_⟩
  have q_13 := x_12.size
  have z_11 := Ext.tr z_1 x_12
  have u_9 := fun q hq => (OC8.lt q hq).2
  have lo_10 := fun q hq => (OC8.lt q hq).1
  refine vl (as_ rfl) rfl <| nl <| nT <| sq <| rg <| vl (mv rfl) rfl <| ca MrA_en_slices_Reverse_S_api_Go_api_Go_ rfl rfl ((reverse_G A8 c8 _ l _ OC8 (Gox.all_ok hl)).mono ?_)
  rintro e w_16 ⟨rfl, OR14, m_15⟩
  refine ⟨_, rfl, ?_⟩
  have q_17 := m_15.size
  have z_16 := Ext.mod z_11 m_15 (fun q hq => by have h_ := lo_10 q hq; omega)
  refine nl <| nT <| sq <| rg <| ?_
  have B_5 := B_5.later x_12
  have d_18 : ∀ q ∈ Rep.blkOf A8, q = b_2 → False := fun q hq hb => by (have := lo_10 q hq; omega)
  have B_5 := B_5.mod m_15 (fun hq => d_18 _ hq rfl)
  refine vl (ld rfl (B_5.all MrA_ag_api_World MrA_sz_api_World)) rfl <| vl (mv rfl) rfl <| ca MrA_en_march_Step rfl rfl ((mstep_any a W _ _ l _ (hW.keep z_16) (hl.keep z_16)).mono ?_)
  rintro e w_24 ⟨a19, A19, c19, rfl, HO19, OM19, hd19, x_25⟩
  refine ⟨_, rfl, ?_⟩
  have q_26 := x_25.size
  have z_24 := Ext.tr z_16 x_25
  have u_20 := fun q hq => (HO19.lt q hq).2
  have lo_21 := fun q hq => (HO19.lt q hq).1
  have u_22 := fun q hq => (OM19.lt q hq).2
  have lo_23 := fun q hq => (OM19.lt q hq).1
  have dd19 : ∀ q ∈ Rep.blkOf A19, q ∈ WOwn.foot a19 → False := hd19
  have dw19 : ∀ q ∈ WOwn.foot a19, q ∈ Rep.blkOf A19 → False := fun q h1 h2 => hd19 q h2 h1
  refine vl (mv rfl) rfl <| vl (ex rfl rfl) rfl <| vl (ex rfl rfl) rfl <| vl (ex rfl rfl) rfl <| al rfl MrA_zv_api_World rfl rfl fun w_27 b_28 x_29 l_30 B_31 => ?_
  have q_32 := x_29.size
  have z_27 := Ext.tr z_24 x_29
  have q_33 := B_31.lt
  refine st rfl rfl B_31 rfl MrA_sz_api_World rfl rfl rfl fun w_34 m_35 B_31 => ?_
  have q_37 := m_35.size
  have z_34 := Ext.mod z_27 m_35 (by simp only [List.mem_singleton, forall_eq]; omega)
  have q_36 := m_35.size
  refine vl (as_ rfl) rfl <| vl (as_ rfl) rfl <| nl <| nT <| sq <| rg <| ?_
  have B_5 := B_5.later (Ext.tr x_25 x_29)
  have B_5 := B_5.mod m_35 (by simp only [List.mem_singleton]; omega)
  refine vl (ld rfl (B_5.all MrA_ag_api_World MrA_sz_api_World)) rfl <| vl (mv rfl) rfl <| ?_
  have OR14 := OR14.later (Ext.tr x_25 x_29)
  have OR14 := OR14.mod m_35 (fun q hq h => by have hb := List.mem_singleton.1 h; exfalso; (have := u_9 q hq; omega))
  refine ca MrA_en_march_Step rfl rfl ((mstep_len a W _ _ _ l.reverse List.length_reverse _ (hW.keep z_34) OR14.has).mono ?_)
  rintro e w_43 ⟨a38, A38, c38, rfl, HO38, OM38, hd38, x_44⟩
  refine ⟨_, rfl, ?_⟩
  have q_45 := x_44.size
  have z_43 := Ext.tr z_34 x_44
  have u_39 := fun q hq => (HO38.lt q hq).2
  have lo_40 := fun q hq => (HO38.lt q hq).1
  have u_41 := fun q hq => (OM38.lt q hq).2
  have lo_42 := fun q hq => (OM38.lt q hq).1
  have dd38 : ∀ q ∈ Rep.blkOf A38, q ∈ WOwn.foot a38 → False := hd38
  have dw38 : ∀ q ∈ WOwn.foot a38, q ∈ Rep.blkOf A38 → False := fun q h1 h2 => hd38 q h2 h1
  refine vl (mv rfl) rfl <| vl (ex rfl rfl) rfl <| vl (ex rfl rfl) rfl <| vl (ex rfl rfl) rfl <| al rfl MrA_zv_api_World rfl rfl fun w_46 b_47 x_48 l_49 B_50 => ?_
  have q_51 := x_48.size
  have z_46 := Ext.tr z_43 x_48
  have q_52 := B_50.lt
  refine st rfl rfl B_50 rfl MrA_sz_api_World rfl rfl rfl fun w_53 m_54 B_50 => ?_
  have q_56 := m_54.size
  have z_53 := Ext.mod z_46 m_54 (by simp only [List.mem_singleton, forall_eq]; omega)
  have q_55 := m_54.size
  refine vl (as_ rfl) rfl <| vl (as_ rfl) rfl <| nl <| nT <| sq <| sq <| rg <| ca MrA_en_mustkeep_marchLives rfl rfl ((marchLives_any _).mono ?_)
  rintro e w_57 ⟨rfl, x_58⟩
  refine ⟨_, rfl, ?_⟩
  have q_59 := x_58.size
  have z_57 := Ext.tr z_53 x_58
  refine vl (nt rfl) rfl <| vl (mv rfl) rfl <| ug rfl rfl rfl <| vl (mv rfl) rfl <| ug rfl rfl rfl <| vl (bne rfl rfl) rfl <| vl (pkF rfl rfl) rfl <| nl <| nT <| ?_
  refine cne rfl (fun h_60 => ?_) (fun h_60 => ?_)
  · refine sq <| rg <| ca MrA_en_mustkeep_marchLives rfl rfl ((marchLives_any _).mono ?_)
    rintro e w_61 ⟨rfl, x_62⟩
    refine ⟨_, rfl, ?_⟩
    have q_63 := x_62.size
    have z_61 := Ext.tr z_57 x_62
    refine vl (mv rfl) rfl <| ug rfl rfl rfl <| vl (mv rfl) rfl <| ug rfl rfl rfl <| vl (mv rfl) rfl <| ug rfl rfl rfl <| vl (beq rfl rfl) rfl <| vl (pkT rfl rfl) rfl <| vl (as_ rfl) rfl <| nl <| nT <| rt <| tT <| tR (.tmp rfl .nil) <| ?_
    exact ⟨ret_true (by unfold marchE; rw [List.length_reverse]; simp), z_61⟩
  · refine sk <| nT <| sq <| sq <| rg <| vl (mv rfl) rfl <| vl (ln Try.underlying50 rfl) rfl <| vl (mv rfl) rfl <| nl <| nT <| bk <| ?_
    have HO19 := HO19.later x_29
    have HO19 := HO19.mod m_35 (fun q hq h => by have hb := List.mem_singleton.1 h; exfalso; (have := u_20 q hq; omega))
    have HO19 := HO19.later (Ext.tr x_44 x_48)
    have HO19 := HO19.mod m_54 (fun q hq h => by have hb := List.mem_singleton.1 h; exfalso; (have := u_20 q hq; omega))
    have HO19 := HO19.later x_58
    have OM19 := OM19.later x_29
    have OM19 := OM19.mod m_35 (fun q hq h => by have hb := List.mem_singleton.1 h; exfalso; (have := u_22 q hq; omega))
    have OM19 := OM19.later (Ext.tr x_44 x_48)
    have OM19 := OM19.mod m_54 (fun q hq h => by have hb := List.mem_singleton.1 h; exfalso; (have := u_22 q hq; omega))
    have OM19 := OM19.later x_58
    have B_31 := B_31.later (Ext.tr x_44 x_48)
    have B_31 := B_31.mod m_54 (by simp only [List.mem_singleton]; omega)
    have B_31 := B_31.later x_58
    have HO38 := HO38.later x_48
    have HO38 := HO38.mod m_54 (fun q hq h => by have hb := List.mem_singleton.1 h; exfalso; (have := u_39 q hq; omega))
    have HO38 := HO38.later x_58
    have OM38 := OM38.later x_48
    have OM38 := OM38.mod m_54 (fun q hq h => by have hb := List.mem_singleton.1 h; exfalso; (have := u_41 q hq; omega))
    have OM38 := OM38.later x_58
    have B_50 := B_50.later x_58
    refine lp (fun mI EI wI => ∃ k : Nat, EI = [(1, .slice A l.length c), (6, .pointer (some ⟨b_28, 0, none⟩)), (7, .slice A19 ((marchM W l).length) c19), (9, .pointer (some ⟨b_47, 0, none⟩)), (10, .slice A38 ((marchM W l.reverse).length) c38), (11, .int .i64 (marchE W l.reverse)), (44, .slice A l.length c), (45, .int .i64 (l.length : Int)), (46, .int .i64 (k : Int))] ∧ mI = l.length - k ∧ Ext w wI ∧ WOwn wI w_16.heap.size a19 (marchW W l) ∧ repI.SOwn 3 8 wI w_16.heap.size (Rep.blkOf A19) A19 c19 (marchM W l) ∧ Blk wI b_28 ((Wd.cells a19 (marchW W l))) 49 (0, 0) ∧ WOwn wI w_34.heap.size a38 (marchW W l.reverse) ∧ repI.SOwn 3 8 wI w_34.heap.size (Rep.blkOf A38) A38 c38 (marchM W l.reverse) ∧ Blk wI b_47 ((Wd.cells a38 (marchW W l.reverse))) 49 (0, 0) ∧ (k ≤ l.length) ∧ (∀ i, i < k → ∀ j, j < i → (l.getD j default).id ≠ (l.getD i default).id)) _ _ ⟨0, rfl, rfl, z_57, HO19, OM19, B_31, HO38, OM38, B_50, by omega, fun i hi => by omega⟩ (.cons rfl (.cons rfl (.cons rfl (.cons rfl (.cons rfl (.cons rfl (.cons rfl (.cons rfl (.cons (loI rfl (by first | omega | rfl | (simp <;> omega))) .nil))))))))) ?_
    rintro m_65 E_66 w_64 ⟨k, rfl, rfl, z_64, HO19, OM19, B_31, HO38, OM38, B_50, hk, hds⟩
    have q_67 := z_64.size
    have u_68 := fun q hq => (HO19.lt q hq).2
    have u_69 := fun q hq => (OM19.lt q hq).2
    have q_70 := B_31.lt
    have u_71 := fun q hq => (HO38.lt q hq).2
    have u_72 := fun q hq => (OM38.lt q hq).2
    have q_73 := B_50.lt
    refine sq <| rg <| vl (blt rfl rfl) rfl <| nl <| nT <| sq <| ?_
    refine clt rfl (fun h_74 => ?_) (fun h_74 => ?_)
    · refine sk <| nT <| sq <| bk <| sq <| rg <| vl (mv rfl) rfl <| vl (iA k Try.underlying50 MrA_sz_api_Go rfl rfl ((hl.keep z_64).adr (Nat.zero_lt_of_lt (show k < _ from (by omega)))) rfl (by omega)) rfl <| vl (ld rfl (Rep.SHas.elt hcGo ((hl.keep z_64).adh (Nat.zero_lt_of_lt (show k < _ from (by omega)))) (get_d (l := l) (u := default) (by omega)) MrA_ag_api_Go MrA_sz_api_Go)) rfl <| al rfl MrA_zv_api_Go rfl rfl fun w_75 b_76 x_77 l_78 B_79 => ?_
      have q_80 := x_77.size
      have z_75 := Ext.tr z_64 x_77
      have q_81 := B_79.lt
      refine vl (as_ rfl) rfl <| st (new := [.int .i64 ((l.getD k default).id), .int .i64 ((l.getD k default).to.x), .int .i64 ((l.getD k default).to.y)]) rfl rfl B_79 rfl MrA_sz_api_Go rfl rfl rfl fun w_82 m_83 B_79 => ?_
      have q_85 := m_83.size
      have z_82 := Ext.mod z_75 m_83 (by simp only [List.mem_singleton, forall_eq]; omega)
      have q_84 := m_83.size
      refine nl <| nT <| sq <| rg <| vl (mv rfl) rfl <| vl (mv rfl) rfl <| vl (sP k (l.take k).length Try.underlying50 MrA_sz_api_Go rfl rfl rfl (by omega) (by rw [List.length_take]; omega)) rfl <| vl (mf rfl rfl) rfl <| ca MrA_en_slices_ContainsFunc_S_api_Go_api_Go_ rfl rfl ((hasF_G 31 [.pointer (some ⟨b_76, 0, none⟩)] (fun o => o.id == (l.getD k default).id) _ _ (l.take k) _ ((hl.keep z_82).pre k) MrA_en_mustkeep_MarchAny_1 (fun x hx w' h => many_same x (l.getD k default) b_76 w' (B_79.later h))).mono ?_)
      rintro e w_86 ⟨rfl, x_87⟩
      refine ⟨_, rfl, ?_⟩
      have q_88 := x_87.size
      have z_86 := Ext.tr z_82 x_87
      refine nl <| nT <| ?_
      refine cb rfl (fun h_89 => ?_) (fun h_89 => ?_)
      · refine sq <| rg <| vl (as_ rfl) rfl <| nl <| nT <| rt <| tB <| tT <| tK <| tB <| tT <| tR (.tmp rfl .nil) <| ?_
        exact ⟨rfl, z_86⟩
      · refine sk <| nB <| nT <| rg <| vl (bad rfl rfl (inI (by omega))) rfl <| vl (mv rfl) rfl <| nl <| ?_
        have HO19 := HO19.later x_77
        have HO19 := HO19.mod m_83 (fun q hq h => by have hb := List.mem_singleton.1 h; exfalso; (have := u_68 q hq; have := u_20 q hq; omega))
        have HO19 := HO19.later x_87
        have OM19 := OM19.later x_77
        have OM19 := OM19.mod m_83 (fun q hq h => by have hb := List.mem_singleton.1 h; exfalso; (have := u_69 q hq; have := u_22 q hq; omega))
        have OM19 := OM19.later x_87
        have B_31 := B_31.later x_77
        have B_31 := B_31.mod m_83 (by simp only [List.mem_singleton]; omega)
        have B_31 := B_31.later x_87
        have HO38 := HO38.later x_77
        have HO38 := HO38.mod m_83 (fun q hq h => by have hb := List.mem_singleton.1 h; exfalso; (have := u_71 q hq; have := u_39 q hq; omega))
        have HO38 := HO38.later x_87
        have OM38 := OM38.later x_77
        have OM38 := OM38.mod m_83 (fun q hq h => by have hb := List.mem_singleton.1 h; exfalso; (have := u_72 q hq; have := u_41 q hq; omega))
        have OM38 := OM38.later x_87
        have B_50 := B_50.later x_77
        have B_50 := B_50.mod m_83 (by simp only [List.mem_singleton]; omega)
        have B_50 := B_50.later x_87
        exact nI _ _ ⟨k + 1, rfl, rfl, z_86, HO19, OM19, B_31, HO38, OM38, B_50, by omega, ids_succ (by omega) hds h_89⟩ (by omega) (.cons rfl (.cons rfl (.cons rfl (.cons rfl (.cons rfl (.cons rfl (.cons rfl (.cons rfl (.cons (loI rfl (by first | omega | rfl | (simp <;> omega))) .nil)))))))))
    · refine xt <| xT <| xK <| xB <| nT <| sq <| rg <| vl (mv rfl) rfl <| vl (beq rfl rfl) rfl <| vl (mv rfl) rfl <| vQ rfl rfl rfl rfl (fun hc => ld rfl (B_31.all MrA_ag_api_World MrA_sz_api_World)) rfl <| vQ rfl rfl rfl rfl (fun hc => ld rfl (B_50.all MrA_ag_api_World MrA_sz_api_World)) rfl <| vC rfl rfl rfl rfl MrA_en_mustref_SameWorld (fun hc => ec (gt hc rfl) (ec (gt hc rfl) rfl)) (fun hc => sameWorld_any _ a19 (marchW W l) a38 (marchW W l.reverse) HO19.has HO38.has) rfl fun w_90 x_91 => ?_
      have q_92 := x_91.size
      have z_90 := Ext.tr z_64 x_91
      refine vl (pA rfl rfl rfl rfl) rfl <| vl (mv rfl) rfl <| vQ rfl rfl rfl rfl (fun hc => mv rfl) rfl <| vQ rfl rfl rfl rfl (fun hc => mv rfl) rfl <| ?_
      have OM19 := OM19.later x_91
      have OM38 := OM38.later x_91
      refine vC rfl rfl rfl rfl MrA_en_slices_Equal_S_int_int_ (fun hc => ec (gt hc rfl) (ec (gt hc rfl) rfl)) (fun hc => equal_Z _ _ _ _ _ _ (marchM W l) (marchM W l.reverse) _ OM19.has OM38.has) rfl fun w_93 x_94 => ?_
      have q_95 := x_94.size
      have z_93 := Ext.tr z_90 x_94
      refine vl (pA rfl rfl rfl rfl) rfl <| vl (as_ rfl) rfl <| nl <| nT <| rt <| tR (.tmp rfl .nil) <| ?_
      have ek : k = l.length := by omega
      subst ek
      obtain ⟨e1, e2, e3⟩ := march_any_order (W := W) hds
      have h0 : marchE W l = 0 := by simp_all
      exact ⟨ret_true (by rw [e1, e2, e3, h0]; simp), z_93⟩
theorem marchAny_any (c0 : Array Value) (a1 : Option Addr) (len1 cap1 : Nat) (w : World) (h0 : (.cons (.cons (.int .i64) (.cons (.int .i64) (.cons (.slice (.int .i64) 8) .nil))) (.cons (.slice (.cons (.int .i64) (.cons (.int .i64) .nil)) 16) (.cons (.slice (.int .i64) 8) (.cons (.slice (.int .i64) 8) (.cons (.slice (.cons (.int .i64) (.cons (.int .i64) (.cons (.int .i64) (.cons (.cons (.int .i64) (.cons (.int .i64) .nil)) (.cons (.int .i64) (.cons (.int .i64) .nil)))))) 56) (.cons (.int .i64) (.cons (.int .i64) .nil)))))) : Sh).Ok w c0.toList) (h1 : (.slice (.cons (.int .i64) (.cons (.cons (.int .i64) (.cons (.int .i64) .nil)) .nil)) 24 : Sh).Ok w [.slice a1 len1 cap1]) :
    Calls Try.prog 9 #[.agg c0, .slice a1 len1 cap1] w fun e w' => e = .returned (.bool true) ∧ Below w.heap.size w w' := by
  obtain ⟨a, W, e, hW⟩ := Wd.opens w _ (show Wd.sh.Ok w c0.toList from h0)
  have hc : c0 = (Wd.cells a W).toArray := by rw [← e]
  subst hc
  obtain ⟨A, c, l, e1, hl⟩ := Rep.opens_slice (R := Gox.rep) (by_ := 24) Gox.opens rfl (by decide) h1
  simp only [List.cons.injEq, Value.slice.injEq, and_true] at e1
  obtain ⟨rfl, rfl, rfl⟩ := e1
  exact marchAny_walk a W _ _ l w hW hl
end Go.Proofs.Ytffjpfpbpnhmcaa
