/-
  field.Write. (Printed by bin/fieldw.py.)
-/
import Derived.Test.YtffjpfpbpnhmcaaChk
import Derived.Test.YtffjpfpbpnhmcaaByt
import Derived.Test.YtffjpfpbpnhmcaaWOwn2
set_option linter.unusedVariables false
set_option linter.unusedSimpArgs false
namespace Go.Proofs.Ytffjpfpbpnhmcaa
open Go.RowKit

theorem FldW_ag_api_Field : Ag Try.prog 24 true := fun _ => by kernel_rfl
theorem FldW_sz_api_Field : Sz Try.prog 24 3 := fun _ => by kernel_rfl
theorem FldW_en_field_Check : Enters Try.prog 50 := en Try.func50 (by kernel_rfl) (by kernel_rfl)
theorem FldW_zv_S_uint8 : Zv Try.prog 154 (.slice none 0 0) := fun _ => by kernel_rfl
theorem FldW_fd_api_Field_2 : Fd Try.prog 24 2 2 := fun _ _ _ => by kernel_rfl
theorem FldW_ag_S_int : Ag Try.prog 22 false := fun _ => by kernel_rfl
theorem FldW_fd_api_Field_0 : Fd Try.prog 24 0 0 := fun _ _ _ => by kernel_rfl
theorem FldW_ag_int : Ag Try.prog 3 false := fun _ => by kernel_rfl
theorem FldW_en_slices_Chunk_S_int_int_ : Enters Try.prog 109 := en Try.func109 (by kernel_rfl) (by kernel_rfl)
theorem FldW_en_slices_Chunk_S_int_int__1 : Enters Try.prog 123 := en Try.func123 (by kernel_rfl) (by kernel_rfl)
theorem FldW_sz_int : Sz Try.prog 3 1 := fun _ => by kernel_rfl
theorem FldW_ag_S_uint8 : Ag Try.prog 154 false := fun _ => by kernel_rfl
theorem FldW_el_S_uint8 : ElT Try.prog repY 154 5 1 := ElT.mk_ (z := .int .u8 0) (k := 1) Try.underlying154 info_u8 rfl rfl (by decide) (fun j u h => raw0Y j u h)
theorem FldW_sz_S_uint8 : Sz Try.prog 154 1 := fun _ => by kernel_rfl
def sgn8 (p : Int) : UInt8 := ([46, 35, 116, 111] : List UInt8).getD p.toNat 0
/-- The first so many signs of a row. -/
def rowT (f : Fld) (k j : Nat) : List UInt8 := (((f.places.drop (k * f.wide.toNat)).take (k * f.wide.toNat + f.wide.toNat - k * f.wide.toNat)).take j).map sgn8
def txt (f : Fld) (pre : List (Fin f.high.toNat)) : List UInt8 := pre.flatMap fun k => rowT f k.1 f.wide.toNat ++ [10]
theorem txt_app (f : Fld) (pre : List (Fin f.high.toNat)) (x : Fin f.high.toNat) : txt f (pre ++ [x]) = txt f pre ++ rowT f x.1 f.wide.toNat ++ [10] := by
  unfold txt; rw [List.flatMap_append]; simp
theorem rowT_0 (f : Fld) (k : Nat) : rowT f k 0 = [] := rfl
theorem rowT_len (f : Fld) (k j : Nat) : (rowT f k j).length ≤ j := by unfold rowT; rw [List.length_map, List.length_take]; omega
theorem chunk_anyZ (A : Option Addr) (len c : Nat) (i : Int) (w : World) (hi : 1 ≤ i) : Calls Try.prog 109 #[.slice A len c, .int .i64 i] w (fun e w' => ∃ b2 b3, e = .returned (.func (.func 123) #[] #[.pointer (some ⟨b2, 0, none⟩), .pointer (some ⟨b3, 0, none⟩)]) ∧ Blk w' b2 [.slice A len c] 22 (0, 0) ∧ Blk w' b3 [.int .i64 (i.toNat : Int)] 3 (0, 0) ∧ w.heap.size ≤ b2 ∧ b2 < b3 ∧ Ext w w') := by
  have e : i = (i.toNat : Int) := by omega
  have := chunk_any A len c i.toNat w (by omega)
  rw [← e] at this
  rw [← e]; exact this
theorem Fld.mul_len {f : Fld} (h : f.chk = 0) : f.places.length = f.high.toNat * f.wide.toNat := by
  obtain ⟨y1, y2, y3, y4, y5, y6⟩ := Fld.good h
  have e1 : f.wide = (f.wide.toNat : Int) := by omega
  have e2 : f.high = (f.high.toNat : Int) := by omega
  rw [e1, e2] at y5
  have : (f.places.length : Int) = ((f.high.toNat * f.wide.toNat : Nat) : Int) := by rw [y5, Int.natCast_mul, Int.mul_comm]
  omega
theorem txt_len (f : Fld) : ∀ pre : List (Fin f.high.toNat), (txt f pre).length ≤ pre.length * (f.wide.toNat + 1)
  | [] => Nat.zero_le _
  | x :: r => by
    have h1 := txt_len f r
    have h2 := rowT_len f x.1 f.wide.toNat
    have e : txt f (x :: r) = rowT f x.1 f.wide.toNat ++ [10] ++ txt f r := rfl
    rw [e, List.length_cons, Nat.succ_mul]
    simp only [List.length_append, List.length_cons, List.length_nil]
    omega
theorem txt_small (f : Fld) (pre : List (Fin f.high.toNat)) (h : pre.length < f.high.toNat) (y1 : 1 ≤ f.wide) (y2 : f.wide ≤ 40) (y3 : 1 ≤ f.high) (y4 : f.high ≤ 40) : (txt f pre).length ≤ 1640 ∧ f.wide.toNat ≤ 40 := by
  have h1 := txt_len f pre
  have h2 : pre.length * (f.wide.toNat + 1) ≤ 40 * 41 := Nat.mul_le_mul (by omega) (by omega)
  omega
/-- What stands at a place of a row. -/
theorem place_at2 {f : Fld} {x j n : Nat} (h : ∀ p ∈ f.places, 0 ≤ p ∧ p ≤ 3) (hn : n = f.wide.toNat) (hj : x * n + j < f.places.length) (hjn : j < n) : ∃ p : Int, ((f.places.drop (x * f.wide.toNat)).take (x * f.wide.toNat + f.wide.toNat - x * f.wide.toNat)).getD j 0 = p ∧ 0 ≤ p ∧ p ≤ 3 := by
  subst hn
  refine ⟨_, rfl, ?_⟩
  have e : ((f.places.drop (x * f.wide.toNat)).take (x * f.wide.toNat + f.wide.toNat - x * f.wide.toNat)).getD j 0 = f.places[x * f.wide.toNat + j] := by
    rw [List.getD_eq_getElem?_getD, List.getElem?_take, if_pos (by omega), List.getElem?_drop, List.getElem?_eq_getElem hj]; rfl
  rw [e]
  exact h _ (List.getElem_mem hj)
theorem place_get {q : Int} (h : ∃ p : Int, q = p ∧ 0 ≤ p ∧ p ≤ 3) : 0 ≤ q ∧ (bytesS [46, 35, 116, 111]).data.toList[q.toNat]? = some (sgn8 q) := by
  obtain ⟨p, rfl, h0, h3⟩ := h
  have : q = 0 ∨ q = 1 ∨ q = 2 ∨ q = 3 := by omega
  rcases this with rfl | rfl | rfl | rfl <;> exact ⟨by decide, rfl⟩
theorem rowT_succ {f : Fld} {x j : Nat} (hj : j < ((f.places.drop (x * f.wide.toNat)).take (x * f.wide.toNat + f.wide.toNat - x * f.wide.toNat)).length) : rowT f x (j + 1) = rowT f x j ++ [sgn8 (((f.places.drop (x * f.wide.toNat)).take (x * f.wide.toNat + f.wide.toNat - x * f.wide.toNat)).getD j 0)] := by
  unfold rowT
  rw [List.take_succ_eq_append_getElem hj, List.map_append, List.getD_eq_getElem?_getD, List.getElem?_eq_getElem hj]; rfl
/-- A field's text. -/
def fldText (f : Fld) : ByteArray := if f.chk ≠ 0 then bytesS [] else bytesS (txt f (List.finRange f.high.toNat))
theorem write_bad {f : Fld} (h : ¬ f.chk = 0) : fldText f = bytesS [] := by unfold fldText; rw [if_pos h]
theorem write_ok {f : Fld} (h : f.chk = 0) : fldText f = bytesS (txt f (List.finRange f.high.toNat)) := by unfold fldText; rw [if_neg (by simpa using h)]
set_option maxRecDepth 100000 in
set_option maxHeartbeats 1000000 in
theorem write_any (f : Fld) (A : Option Addr) (c : Nat) (w : World) (hP : repI.SHas 8 w A c f.places) :
    Calls Try.prog 86 #[.agg #[.int .i64 f.wide, .int .i64 f.high, .slice A f.places.length c]] w (fun e w' => e = .returned (.tuple #[.string (fldText f), .int .i64 f.chk]) ∧ Ext w w') := by
  refine Rd.calls_W (m := 5) (n := 37) Try.func86 rfl rfl rfl ?_
  refine Rd.sq <| Rd.rg <| bx rfl rfl rfl rfl fun w_1 b_2 x_3 l_4 B_5 => ?_
  have q_6 := x_3.size
  have z_1 := Ext.tr (Ext.rf w) x_3
  have q_7 := B_5.lt
  refine vl (as_ rfl) rfl <| vl (as_ rfl) rfl <| nl <| Rd.nT <| Rd.sq <| Rd.sq <| Rd.rg <| vl (ld rfl (B_5.all FldW_ag_api_Field FldW_sz_api_Field)) rfl <| ca FldW_en_field_Check rfl rfl ((fldCheck f A c _ (hP.keep z_1)).mono ?_)
  rintro e w_8 ⟨rfl, x_9⟩
  refine ⟨_, rfl, ?_⟩
  have q_10 := x_9.size
  have z_8 := Ext.tr z_1 x_9
  refine vl (as_ rfl) rfl <| nl <| Rd.nT <| Rd.sq <| Rd.rg <| vl (mv rfl) rfl <| vl (bne rfl rfl) rfl <| nl <| Rd.nT <| ?_
  refine Rd.cne rfl (fun h_11 => ?_) (fun h_11 => ?_)
  · refine Rd.sq <| Rd.rg <| vl (mv rfl) rfl <| vl (as_ rfl) rfl <| vl (as_ rfl) rfl <| nl <| Rd.nT <| Rd.rt <| Rd.tT <| Rd.tR (.tmp rfl (.tmp rfl .nil)) <| ?_
    exact ⟨by rw [write_bad h_11]; rfl, z_8⟩
  · obtain ⟨y1, y2, y3, y4, y5, y6⟩ := Fld.good h_11
    have hpl := Fld.len_le h_11
    have hlen := Fld.mul_len h_11
    refine Rd.sk <| Rd.nT <| Rd.sq <| Rd.rg <| al rfl FldW_zv_S_uint8 rfl rfl fun w_12 b_13 x_14 l_15 B_16 => ?_
    have q_17 := x_14.size
    have z_12 := Ext.tr z_8 x_14
    have q_18 := B_16.lt
    refine nl <| Rd.nT <| Rd.sq <| Rd.sq <| Rd.rg <| vl (fa FldW_fd_api_Field_2 rfl) rfl <| ?_
    have B_5 := B_5.later (Ext.tr x_9 x_14)
    refine vl (ld rfl (B_5.one FldW_ag_S_int rfl)) rfl <| vl (fa FldW_fd_api_Field_0 rfl) rfl <| vl (ld rfl (B_5.one FldW_ag_int rfl)) rfl <| ca FldW_en_slices_Chunk_S_int_int_ rfl rfl ((chunk_anyZ _ _ _ f.wide _ (by omega)).mono ?_)
    rintro e w_19 ⟨b2, b3, rfl, C2, C3, l2, l3, x_20⟩
    refine ⟨_, rfl, ?_⟩
    have q_21 := x_20.size
    have z_19 := Ext.tr z_12 x_20
    have q2 := C2.lt
    have q3 := C3.lt
    refine nl <| Rd.nT <| Rd.bk <| ?_
    have B_16 := B_16.later x_20
    refine Rd.rf (enc := (fun k : Fin f.high.toNat => .slice (sA A (k.1 * f.wide.toNat + f.wide.toNat) (k.1 * f.wide.toNat) 1) f.wide.toNat f.wide.toNat)) rfl FldW_en_slices_Chunk_S_int_int__1 (chunk_in f.high.toNat f.wide.toNat f.places.length c b2 b3 A _ (by omega) hlen (hP.1) hP.2.1 _ C2 C3) (by omega) (by omega) (Ext.rf _) (by decide) rfl rfl (fun pre W => ∃ Ao : Option Addr, ∃ co : Nat, Blk W b_13 [.slice Ao ((txt f pre).length) co] 154 (0, 0) ∧ repY.SOwn 5 1 W w_19.heap.size (Rep.blkOf Ao) Ao co (txt f pre) ∧ Mod [b_13] w_19 W) (by rintro s_ W1_ W2_ S_ ⟨Ao, co, B5, OO, z_⟩ m_ hS_; exact ⟨Ao, co, B5.mod m_ (fun hq => (hS_ _ hq).2 _ _ _ B5), OO.mod m_ (fun q hq hs => by obtain ⟨_, _, _, hc⟩ := OO.cellsAt q hq; exact (hS_ q hs).2 _ _ _ hc), z_.md m_ (fun q hq => .inr (hS_ q hq).1)⟩) ⟨none, 0, B_16, Rep.SOwn.nil _, Mod.rf _ _⟩ ?_ ?_
    · intro l_ pre x wB hI_ hlen_
      obtain ⟨Ao, co, B5, OO, zB⟩ := hI_
      have hzb : ∀ q ∈ [b_13], w.heap.size ≤ q := fun q hq => by rw [List.mem_singleton.1 hq]; omega
      have hKF : KF w_19.heap.size wB wB := KF.rf _ _
      have q_22 := zB.size
      have q_23 := B5.lt
      have u_24 := fun q hq => (OO.lt q hq).2
      have lo_25 := fun q hq => (OO.lt q hq).1
      have hx := x.2
      have hxm : x.1 * f.wide.toNat + f.wide.toNat ≤ f.high.toNat * f.wide.toNat := by rw [← Nat.succ_mul]; exact Nat.mul_le_mul_right _ hx
      have htl := txt_len f pre
      have hpre : pre.length < f.high.toNat := hlen_
      have hpm := txt_small f pre hpre y1 y2 y3 y4
      refine Rd.bk <| Rd.sq <| Rd.sq <| Rd.rg <| vl (mv rfl) rfl <| vl (ln Try.underlying22 rfl) rfl <| vl (mv rfl) rfl <| nl <| Rd.nT <| Rd.bk <| ?_
      refine Rd.lp (fun mI EI wI => ∃ j : Nat, ∃ Aj : Option Addr, ∃ cj : Nat, EI = [(2, .string (bytesS [])), (3, .int .i64 0), (5, .pointer (some ⟨b_13, 0, none⟩)), (6, .slice (sA A (x.1 * f.wide.toNat + f.wide.toNat) (x.1 * f.wide.toNat) 1) f.wide.toNat f.wide.toNat), (20, .slice (sA A (x.1 * f.wide.toNat + f.wide.toNat) (x.1 * f.wide.toNat) 1) f.wide.toNat f.wide.toNat), (21, .int .i64 (f.wide.toNat : Int)), (22, .int .i64 (j : Int))] ∧ mI = f.wide.toNat - j ∧ Mod [b_13] w_19 wI ∧ KF w_19.heap.size wB wI ∧ Blk wI b_13 [.slice Aj (((txt f pre ++ rowT f x.1 j)).length) cj] 154 (0, 0) ∧ repY.SOwn 5 1 wI w_19.heap.size (Rep.blkOf Aj) Aj cj (txt f pre ++ rowT f x.1 j) ∧ (j ≤ f.wide.toNat) ∧ (∀ q ∈ Rep.blkOf Aj, q = b_13 → False)) _ _ ⟨0, Ao, co, rfl, rfl, zB, hKF, (by rw [rowT_0, List.append_nil]; exact B5), (by rw [rowT_0, List.append_nil]; exact OO), by omega, (fun q hq hb => by (have := lo_25 q hq; omega))⟩ (.cons rfl (.cons rfl (.cons rfl (.cons rfl (.cons rfl (.cons rfl (.cons (loI rfl (by first | omega | rfl | (simp <;> omega))) .nil))))))) ?_
      rintro m_28 E_29 w_27 ⟨j, Aj, cj, rfl, rfl, z_27, hKF, B6, OJ, hj, d_26⟩
      have q_30 := z_27.size
      have q_31 := B6.lt
      have u_32 := fun q hq => (OJ.lt q hq).2
      have lo_33 := fun q hq => (OJ.lt q hq).1
      have hrl := rowT_len f x.1 j
      have hrow : ((f.places.drop (x.1 * f.wide.toNat)).take (x.1 * f.wide.toNat + f.wide.toNat - x.1 * f.wide.toNat)).length = f.wide.toNat := by rw [List.length_take, List.length_drop]; omega
      refine Rd.sq <| Rd.rg <| vl (blt rfl rfl) rfl <| nl <| Rd.nT <| Rd.sq <| ?_
      refine Rd.clt rfl (fun h_34 => ?_) (fun h_34 => ?_)
      · have hj2 := place_at2 (f := f) (j := j) y6 (x := x.1) (n := f.wide.toNat) (by omega) (by omega) (by omega)
        refine Rd.sk <| Rd.nT <| Rd.sq <| Rd.bk <| Rd.sq <| Rd.rg <| vl (iA j Try.underlying22 FldW_sz_int rfl rfl (((hP.keep (Ext.mod z_19 z_27 hzb)).chunk (x.1 * f.wide.toNat) (x.1 * f.wide.toNat + f.wide.toNat) (by omega) (by omega)).adr (Nat.zero_lt_of_lt (show j < _ from (by rw [List.length_take, List.length_drop]; omega)))) rfl (by omega)) rfl <| vl (ld rfl (Rep.SHas.one' hcI (((hP.keep (Ext.mod z_19 z_27 hzb)).chunk (x.1 * f.wide.toNat) (x.1 * f.wide.toNat + f.wide.toNat) (by omega) (by omega)).adh (Nat.zero_lt_of_lt (show j < _ from (by rw [List.length_take, List.length_drop]; omega)))) (get_d (l := (f.places.drop (x.1 * f.wide.toNat)).take (x.1 * f.wide.toNat + f.wide.toNat - x.1 * f.wide.toNat)) (u := 0) (by rw [List.length_take, List.length_drop]; omega)) rfl FldW_ag_int)) rfl <| vl (as_ rfl) rfl <| nl <| Rd.nT <| ?_
        refine Rd.rd [(0, 0), (3, 2), (4, 3), (5, 3)] [0, 1, 2, 3, 4, 5] (by kernel_rfl) (by kernel_rfl) ?_
        refine fq rfl rfl (fun _ x => ld rfl ((B6.later x).one FldW_ag_S_uint8 rfl)) rfl <| fw rfl rfl (fun _ => mv rfl) rfl <| fw rfl rfl (fun _ => si Try.underlying9 rfl rfl (place_get hj2).1 (place_get hj2).2) rfl <| fx rfl rfl rfl fun w_35 x_36 Q hK => bs (e := 5) (cs := [.int .u8 (((sgn8 (((f.places.drop (x.1 * f.wide.toNat)).take (x.1 * f.wide.toNat + f.wide.toNat - x.1 * f.wide.toNat)).getD j 0)).toNat : Int))]) rfl (fun _ => by kernel_rfl) rfl fun w_37 b_38 x_39 l_40 B_41 => hK _ _ ⟨Ext.tr x_36 x_39, ?_⟩
        have q_42 := x_36.size
        have z_35 := z_27.trans (Mod.of_ext x_36)
        have q_43 := x_39.size
        have z_37 := z_35.trans (Mod.of_ext x_39)
        have q_44 := B_41.lt
        have OJ := OJ.later (Ext.tr x_36 x_39)
        have pc_47 := OJ
        refine fb rfl rfl rfl fun w_45 x_46 Q hK => ap FldW_el_S_uint8 Rep.flat_bare (OJ.later x_46) ((Blk.has1 (R := repY) (by_ := 1) (q := (sgn8 (((f.places.drop (x.1 * f.wide.toNat)).take (x.1 * f.wide.toNat + f.wide.toNat - x.1 * f.wide.toNat)).getD j 0))) B_41 ⟨rfl, trivial⟩ (by decide)).keep x_46) rfl rfl (by simp only [List.length_append, List.length_cons, List.length_nil]; omega) (by simp only [List.length_append, List.length_cons, List.length_nil]; omega) (by have := x_46.size; omega) rfl fun w_48 A_49 c_50 m_51 O_52 g_53 n_54 => hK _ _ ?_
        have q_55 := x_46.size
        have z_45 := z_37.trans (Mod.of_ext x_46)
        have q_56 := m_51.size
        have z_48 := z_45.md m_51 (fun q hq => .inr ((fun q hq => Nat.le_trans (by omega) ((OJ.later x_46).lt q hq).1) q hq))
        have u_57 := fun q hq => (O_52.lt q hq).2
        have q_58 := m_51.size
        have B6 := B6.later (Ext.tr x_36 (Ext.tr x_39 x_46))
        have B6 := B6.mod m_51 (fun hq => d_26 _ hq rfl)
        have pc_61 := B6
        refine fb rfl rfl rfl fun w_59 x_60 Q hK => st (new := [.slice A_49 ((txt f pre ++ rowT f x.1 j ++ [(sgn8 (((f.places.drop (x.1 * f.wide.toNat)).take (x.1 * f.wide.toNat + f.wide.toNat - x.1 * f.wide.toNat)).getD j 0))]).length) c_50]) rfl rfl (B6.later x_60) rfl FldW_sz_S_uint8 rfl rfl rfl fun w_62 m_63 B6 => hK _ _ ?_
        have q_65 := x_60.size
        have z_59 := z_48.trans (Mod.of_ext x_60)
        have q_66 := m_63.size
        have z_62 := z_59.md m_63 (fun q hq => .inl hq)
        have q_64 := m_63.size
        refine fn fun w_67 x_68 => ?_
        have q_69 := x_68.size
        have z_67 := z_62.trans (Mod.of_ext x_68)
        refine Rd.nB <| Rd.nT <| Rd.rg <| vl (bad rfl rfl (inI (by omega))) rfl <| vl (mv rfl) rfl <| nl <| ?_
        have hKF := hKF.later (Ext.tr x_36 (Ext.tr x_39 x_46))
        have hKF := hKF.mod m_51 (fun q hq => (pc_47.later x_46).cellsAt q hq)
        have hKF := hKF.later x_60
        have hKF := hKF.mod m_63 (fun q hq => by rw [List.mem_singleton.1 hq]; exact ⟨_, _, _, (pc_61.later x_60)⟩)
        have hKF := hKF.later x_68
        have B6 := B6.later x_68
        have O_52 := O_52.later x_60
        have O_52 := O_52.mod m_63 (fun q hq h => by have hb := List.mem_singleton.1 h; exfalso; (exact Or.elim (g_53 q hq) (fun k_70 => by (exact d_26 q k_70 hb)) (fun k_70 => by omega)))
        have O_52 := O_52.later x_68
        exact Rd.nI _ _ ⟨j + 1, A_49, c_50, rfl, rfl, z_67, hKF, (by rw [rowT_succ (by omega), ← List.append_assoc]; exact B6), (by rw [rowT_succ (by omega), ← List.append_assoc]; exact O_52), by omega, (fun q hq hb => by (exact Or.elim (g_53 q hq) (fun k_71 => by (exact d_26 q k_71 hb)) (fun k_71 => by omega)))⟩ (by omega) (.cons rfl (.cons rfl (.cons rfl (.cons rfl (.cons rfl (.cons rfl (.cons (loI rfl (by first | omega | rfl | (simp <;> omega))) .nil)))))))
      · refine Rd.xt <| Rd.xT <| xK <| Rd.xB <| Rd.nT <| Rd.rg <| vl (ld rfl (B6.one FldW_ag_S_uint8 rfl)) rfl <| bs (e := 5) (cs := [.int .u8 10]) rfl (fun _ => by kernel_rfl) rfl fun w_72 b_73 x_74 l_75 B_76 => ?_
        have q_77 := x_74.size
        have z_72 := z_27.trans (Mod.of_ext x_74)
        have q_78 := B_76.lt
        have OJ := OJ.later x_74
        have pc_79 := OJ
        refine ap FldW_el_S_uint8 Rep.flat_bare OJ (Blk.has1 (R := repY) (by_ := 1) (q := (10 : UInt8)) B_76 ⟨rfl, trivial⟩ (by decide)) rfl rfl (by simp only [List.length_append, List.length_cons, List.length_nil]; omega) (by simp only [List.length_append, List.length_cons, List.length_nil]; omega) (by omega) rfl fun w_80 A_81 c_82 m_83 O_84 g_85 n_86 => ?_
        have q_87 := m_83.size
        have z_80 := z_72.md m_83 (fun q hq => .inr ((fun q hq => Nat.le_trans (by omega) (OJ.lt q hq).1) q hq))
        have u_88 := fun q hq => (O_84.lt q hq).2
        have q_89 := m_83.size
        have B6 := B6.later x_74
        have B6 := B6.mod m_83 (fun hq => d_26 _ hq rfl)
        have pc_90 := B6
        refine st (new := [.slice A_81 ((txt f pre ++ rowT f x.1 j ++ [(10 : UInt8)]).length) c_82]) rfl rfl B6 rfl FldW_sz_S_uint8 rfl rfl rfl fun w_91 m_92 B6 => ?_
        have q_94 := m_92.size
        have z_91 := z_80.md m_92 (fun q hq => .inl hq)
        have q_93 := m_92.size
        refine nl <| Rd.nB <| ?_
        have hKF := hKF.later x_74
        have hKF := hKF.mod m_83 (fun q hq => pc_79.cellsAt q hq)
        have hKF := hKF.mod m_92 (fun q hq => by rw [List.mem_singleton.1 hq]; exact ⟨_, _, _, pc_90⟩)
        have O_84 := O_84.mod m_92 (fun q hq h => by have hb := List.mem_singleton.1 h; exfalso; (exact Or.elim (g_85 q hq) (fun k_95 => by (exact d_26 q k_95 hb)) (fun k_95 => by omega)))
        have hjw : j = f.wide.toNat := by omega
        rw [hjw] at B6 O_84
        exact fun _ _ => ⟨hKF, Mod.keep22 zB z_91 ⟨by omega, by omega⟩ (by simp only [List.mem_singleton]; omega) (by simp only [List.mem_singleton]; omega), ⟨A_81, c_82, (by rw [txt_app]; exact B6), (by rw [txt_app]; exact O_84), z_91⟩⟩
    · intro D xs_ wD hD_ hS_ hI_ hDK
      obtain ⟨Ao, co, B5, OO, zD⟩ := hI_
      have hS2 : xs_ = List.finRange f.high.toNat := hS_
      subst hS2
      have q_96 := zD.size
      have zD2 := Ext.mod z_19 zD (fun q hq => by rw [List.mem_singleton.1 hq]; omega)
      refine Rt.nB <| Rt.nT <| Rt.sq <| Rt.rg <| Rt.vl (ld rfl (B5.one FldW_ag_S_uint8 rfl)) rfl <| Rt.vl (cvB Try.underlying154 Try.underlying5 Try.underlying9 OO.has rfl) rfl <| Rt.vl (as_ rfl) rfl <| Rt.vl (as_ rfl) rfl <| Rt.nl <| Rt.nT <| Rt.rt <| Rt.tR hDK (.tmp rfl (.tmp rfl .nil)) <| ?_
      exact ⟨by rw [write_ok h_11, h_11]; rfl, Ext.mod zD2 hDK.un (fun q hq => by rw [List.mem_singleton.1 hq]; omega)⟩
end Go.Proofs.Ytffjpfpbpnhmcaa
