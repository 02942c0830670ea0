/-
  field.Read. (Printed by bin/fieldr.py.)
-/
import Derived.Test.YtffjpfpbpnhmcaaFldW
import Derived.Test.YtffjpfpbpnhmcaaShelf
set_option linter.unusedVariables false
set_option linter.unusedSimpArgs false
namespace Go.Proofs.Ytffjpfpbpnhmcaa
open Go.RowKit

theorem FldR_zv_api_Field : Zv Try.prog 24 (.agg #[.int .i64 0, .int .i64 0, .slice none 0 0]) := fun _ => by kernel_rfl
theorem FldR_en_strings_IndexByte : Enters Try.prog 84 := en Try.func84 (by kernel_rfl) (by kernel_rfl)
theorem FldR_en_strings_Count : Enters Try.prog 85 := en Try.func85 (by kernel_rfl) (by kernel_rfl)
theorem FldR_sz_api_Field : Sz Try.prog 24 3 := fun _ => by kernel_rfl
theorem FldR_fd_api_Field_2 : Fd Try.prog 24 2 2 := fun _ _ _ => by kernel_rfl
theorem FldR_ag_S_int : Ag Try.prog 22 false := fun _ => by kernel_rfl
theorem FldR_el_S_int : ElT Try.prog repI 22 3 8 := ElT.mk_ (z := .int .i64 0) (k := 1) Try.underlying22 info_int rfl rfl (by decide) (fun j u h => raw0I j u h)
theorem FldR_sz_S_int : Sz Try.prog 22 1 := fun _ => by kernel_rfl
theorem FldR_ag_api_Field : Ag Try.prog 24 true := fun _ => by kernel_rfl
theorem FldR_en_field_Write : Enters Try.prog 86 := en Try.func86 (by kernel_rfl) (by kernel_rfl)
theorem idxB (s : ByteArray) (b : UInt8) (w : World) : Calls Try.prog 84 #[.string s, .int .u8 (b.toNat : Int)] w fun e w' => e = .returned (.int .i64 (Lib.indexByte s.data.toList b)) ∧ Ext w w' :=
  (Try.strings_IndexByte s (b.toNat : Int) w).mono fun e w' h => ⟨by rw [h.1]; simp, by rw [h.2]; exact Ext.rf _⟩
theorem cntB (s : ByteArray) (b : UInt8) (w : World) : Calls Try.prog 85 #[.string s, .string (bytesS [b])] w fun e w' => e = .returned (.int .i64 ((Lib.countByte s.data.toList b : Nat) : Int)) ∧ Ext w w' :=
  (Try.strings_Count_one s b w).mono fun e w' h => ⟨by rw [h.1], by rw [h.2]; exact Ext.rf _⟩
theorem str_get {s : ByteArray} {k : Nat} (h : k < s.size) : s.data.toList[(k : Int).toNat]? = some (s.data.toList.getD k 0) := by
  rw [Int.toNat_natCast]
  exact get_d (by rw [Array.length_toList]; exact h)
theorem idx_bd : ∀ (l : List UInt8) (b : UInt8), -1 ≤ Lib.indexByte l b ∧ Lib.indexByte l b < (l.length : Int)
  | [], b => ⟨Int.le_refl _, by show (-1 : Int) < 0; omega⟩
  | x :: l, b => by
    have := idx_bd l b
    unfold Lib.indexByte
    rw [List.length_cons]
    split
    · omega
    · split <;> omega
/-- What places a text tells. -/
def readPl (l : List UInt8) : List Int := (l.map fun b => Lib.indexByte ([46, 35, 116, 111] : List UInt8) b).filter fun n => decide (0 ≤ n)
theorem readPl_len (l : List UInt8) : (readPl l).length ≤ l.length := by unfold readPl; exact Nat.le_trans (List.length_filter_le _ _) (by rw [List.length_map]; exact Nat.le_refl _)
theorem readPl_take {l : List UInt8} {k : Nat} (hk : k < l.length) : readPl (l.take (k + 1)) = readPl (l.take k) ++ [Lib.indexByte ([46, 35, 116, 111] : List UInt8) (l.getD k 0)].filter fun n => decide (0 ≤ n) := by
  rw [List.take_succ_eq_append_getElem hk]
  unfold readPl
  rw [List.map_append, List.filter_append, List.getD_eq_getElem?_getD, List.getElem?_eq_getElem hk]; rfl
theorem read_yes {s : ByteArray} {k : Nat} (hk : k < s.size) (h : 0 ≤ Lib.indexByte ([46, 35, 116, 111] : List UInt8) (s.data.toList.getD k 0)) : readPl (s.data.toList.take (k + 1)) = readPl (s.data.toList.take k) ++ [Lib.indexByte ([46, 35, 116, 111] : List UInt8) (s.data.toList.getD k 0)] := by
  rw [readPl_take (by rw [Array.length_toList]; exact hk), List.filter_cons, if_pos (decide_eq_true h)]; rfl
theorem read_no {s : ByteArray} {k : Nat} (hk : k < s.size) (h : ¬ 0 ≤ Lib.indexByte ([46, 35, 116, 111] : List UInt8) (s.data.toList.getD k 0)) : readPl (s.data.toList.take (k + 1)) = readPl (s.data.toList.take k) := by
  rw [readPl_take (by rw [Array.length_toList]; exact hk), List.filter_cons, if_neg (by rw [decide_eq_false h]; decide)]; simp
def readFld (s : ByteArray) : Fld := ⟨Lib.indexByte s.data.toList 10, ((Lib.countByte s.data.toList 10 : Nat) : Int), readPl s.data.toList⟩
def readE (s : ByteArray) : Int := if ((readFld s).chk != 0 || !decide (fldText (readFld s) = s)) = true then 4 else 0
def readW (s : ByteArray) : Fld := if ((readFld s).chk != 0 || !decide (fldText (readFld s) = s)) = true then ⟨0, 0, []⟩ else readFld s
theorem read_ok {s : ByteArray} (h : ((readFld s).chk != 0 || !decide (fldText (readFld s) = s)) = false) : readW s = readFld s ∧ readE s = 0 := by unfold readW readE; rw [h]; exact ⟨rfl, rfl⟩
theorem read_none {s : ByteArray} {w w' : World} (h : ((readFld s).chk != 0 || !decide (fldText (readFld s) = s)) = true) (x : Ext w w') : ∃ A c, (Ending.returned (.tuple #[.agg #[.int .i64 0, .int .i64 0, .slice none 0 0], .int .i64 4]) = .returned (.tuple #[.agg #[.int .i64 (readW s).wide, .int .i64 (readW s).high, .slice A (readW s).places.length c], .int .i64 (readE s)])) ∧ repI.SOwn 3 8 w' w.heap.size (Rep.blkOf A) A c (readW s).places ∧ Ext w w' := by
  have e1 : readW s = ⟨0, 0, []⟩ := by unfold readW; rw [if_pos h]
  have e2 : readE s = 4 := by unfold readE; rw [if_pos h]
  rw [e1, e2]
  exact ⟨none, 0, rfl, Rep.SOwn.nil _, x⟩
set_option maxRecDepth 100000 in
set_option maxHeartbeats 400000 in
theorem read_any (s : ByteArray) (w : World) (hs : s.size ≤ 17592186044415) :
    Calls Try.prog 55 #[.string s] w (fun e w' => ∃ A c, e = .returned (.tuple #[.agg #[.int .i64 (readW s).wide, .int .i64 (readW s).high, .slice A (readW s).places.length c], .int .i64 (readE s)]) ∧ repI.SOwn 3 8 w' w.heap.size (Rep.blkOf A) A c (readW s).places ∧ Ext w w') := by
  refine calls_W (n := 46) Try.func55 rfl rfl rfl ?_
  refine sq <| rg <| al rfl FldR_zv_api_Field rfl rfl fun w_1 b_2 x_3 l_4 B_5 => ?_
  have q_6 := x_3.size
  have z_1 := Ext.tr (Ext.rf w) x_3
  have q_7 := B_5.lt
  refine vl (as_ rfl) rfl <| nl <| nT <| sq <| rg <| vl (mv rfl) rfl <| ca FldR_en_strings_IndexByte rfl rfl ((idxB s (10 : UInt8) _).mono ?_)
  rintro e w_8 ⟨rfl, x_9⟩
  refine ⟨_, rfl, ?_⟩
  have q_10 := x_9.size
  have z_8 := Ext.tr z_1 x_9
  refine vl (mv rfl) rfl <| ca FldR_en_strings_Count rfl rfl ((cntB s 10 _).mono ?_)
  rintro e w_11 ⟨rfl, x_12⟩
  refine ⟨_, rfl, ?_⟩
  have q_13 := x_12.size
  have z_11 := Ext.tr z_8 x_12
  refine vl (v := .agg #[.int .i64 (Lib.indexByte s.data.toList (10 : UInt8)), .int .i64 (((Lib.countByte s.data.toList 10 : Nat) : Int)), .slice none 0 0]) (bd rfl (by kernel_rfl)) rfl <| al rfl FldR_zv_api_Field rfl rfl fun w_14 b_15 x_16 l_17 B_18 => ?_
  have q_19 := x_16.size
  have z_14 := Ext.tr z_11 x_16
  have q_20 := B_18.lt
  refine st (new := [.int .i64 (Lib.indexByte s.data.toList (10 : UInt8)), .int .i64 (((Lib.countByte s.data.toList 10 : Nat) : Int)), .slice none 0 0]) rfl rfl B_18 rfl FldR_sz_api_Field rfl rfl rfl fun w_21 m_22 B_18 => ?_
  have q_24 := m_22.size
  have z_21 := Ext.mod z_14 m_22 (by simp only [List.mem_singleton, forall_eq]; omega)
  have q_23 := m_22.size
  refine nl <| nT <| sq <| sq <| rg <| vl (mv rfl) rfl <| vl (lnS Try.underlying9 rfl (by omega)) rfl <| vl (mv rfl) rfl <| nl <| nT <| bk <| ?_
  have B_5 := B_5.later (Ext.tr x_9 (Ext.tr x_12 x_16))
  have B_5 := B_5.mod m_22 (by simp only [List.mem_singleton]; omega)
  refine lp (fun mI EI wI => ∃ k : Nat, ∃ Ao : Option Addr, ∃ co : Nat, EI = [(0, .string s), (2, .pointer (some ⟨b_2, 0, none⟩)), (3, .int .i64 0), (4, .pointer (some ⟨b_15, 0, none⟩)), (15, .int .i64 (((s).size : Int))), (16, .int .i64 (k : Int))] ∧ mI = s.size - k ∧ Ext w wI ∧ Blk wI b_2 [.int .i64 0, .int .i64 0, .slice none 0 0] 24 (0, 0) ∧ Blk wI b_15 [.int .i64 (Lib.indexByte s.data.toList (10 : UInt8)), .int .i64 (((Lib.countByte s.data.toList 10 : Nat) : Int)), .slice Ao ((readPl (s.data.toList.take k)).length) co] 24 (0, 0) ∧ repI.SOwn 3 8 wI w.heap.size (Rep.blkOf Ao) Ao co (readPl (s.data.toList.take k)) ∧ (k ≤ s.size) ∧ (∀ q ∈ Rep.blkOf Ao, q = b_2 → False) ∧ (∀ q ∈ Rep.blkOf Ao, q = b_15 → False)) _ _ ⟨0, none, 0, rfl, rfl, z_21, B_5, B_18, (Rep.SOwn.nil _), by omega, (fun q hq hb => by (simp [Rep.blkOf] at hq)), (fun q hq hb => by (simp [Rep.blkOf] at hq))⟩ (.cons rfl (.cons rfl (.cons rfl (.cons rfl (.cons rfl (.cons (loI rfl (by first | omega | rfl | (simp <;> omega))) .nil)))))) ?_
  rintro m_28 E_29 w_27 ⟨k, Ao, co, rfl, rfl, z_27, B_5, B4, OO, hk, d_25, d_26⟩
  have q_30 := z_27.size
  have q_31 := B_5.lt
  have q_32 := B4.lt
  have u_33 := fun q hq => (OO.lt q hq).2
  have hrl := readPl_len (s.data.toList.take k)
  have htl : (s.data.toList.take k).length ≤ k := List.length_take_le _ _
  refine sq <| rg <| vl (blt rfl rfl) rfl <| nl <| nT <| sq <| ?_
  refine clt rfl (fun h_34 => ?_) (fun h_34 => ?_)
  · have hib := idx_bd ([46, 35, 116, 111] : List UInt8) (s.data.toList.getD k 0)
    refine sk <| nT <| sq <| bk <| sq <| rg <| vl (mv rfl) rfl <| vl (as_ rfl) rfl <| nl <| nT <| sq <| rg <| vl (mv rfl) rfl <| vl (mv rfl) rfl <| vl (si Try.underlying9 rfl rfl (by omega) (str_get (s := s) (by omega))) rfl <| ca FldR_en_strings_IndexByte rfl rfl ((idxB (bytesS [46, 35, 116, 111]) (s.data.toList.getD k 0) _).mono ?_)
    rintro e w_35 ⟨rfl, x_36⟩
    refine ⟨_, rfl, ?_⟩
    have q_37 := x_36.size
    have z_35 := Ext.tr z_27 x_36
    refine vl (as_ rfl) rfl <| nl <| nT <| sq <| rg <| vl (mv rfl) rfl <| vl (bge rfl rfl) rfl <| nl <| nT <| ?_
    refine cle rfl (fun h_38 => ?_) (fun h_38 => ?_)
    · refine rg <| vl (fa FldR_fd_api_Field_2 rfl) rfl <| ?_
      have B4 := B4.later x_36
      refine vl (ld rfl (B4.one FldR_ag_S_int rfl)) rfl <| vl (mv rfl) rfl <| bs (e := 3) (cs := [.int .i64 (Lib.indexByte ([46, 35, 116, 111] : List UInt8) (s.data.toList.getD k 0))]) rfl (fun _ => by kernel_rfl) rfl fun w_39 b_40 x_41 l_42 B_43 => ?_
      have q_44 := x_41.size
      have z_39 := Ext.tr z_35 x_41
      have q_45 := B_43.lt
      have OO := OO.later (Ext.tr x_36 x_41)
      refine ap FldR_el_S_int Rep.flat_bare OO (Blk.has1 (R := repI) (by_ := 8) (q := Lib.indexByte ([46, 35, 116, 111] : List UInt8) (s.data.toList.getD k 0)) B_43 ⟨rfl, okI_iff.2 (by have := hib.2; simp only [List.length_cons, List.length_nil] at this; omega)⟩ (by decide)) rfl rfl (by simp only [List.length_cons, List.length_nil]; omega) (by simp only [List.length_cons, List.length_nil]; omega) z_39.size rfl fun w_46 A_47 c_48 m_49 O_50 g_51 n_52 => ?_
      have q_53 := m_49.size
      have z_46 := Ext.mod z_39 m_49 (fun q hq => (OO.lt q hq).1)
      have u_54 := fun q hq => (O_50.lt q hq).2
      have q_55 := m_49.size
      refine vl (fa FldR_fd_api_Field_2 rfl) rfl <| ?_
      have B4 := B4.later x_41
      have B4 := B4.mod m_49 (fun hq => d_26 _ hq rfl)
      refine st (new := [.int .i64 (Lib.indexByte s.data.toList (10 : UInt8)), .int .i64 (((Lib.countByte s.data.toList 10 : Nat) : Int)), .slice A_47 ((readPl (s.data.toList.take k) ++ [Lib.indexByte ([46, 35, 116, 111] : List UInt8) (s.data.toList.getD k 0)]).length) c_48]) rfl rfl B4 rfl FldR_sz_S_int rfl rfl rfl fun w_56 m_57 B4 => ?_
      have q_59 := m_57.size
      have z_56 := Ext.mod z_46 m_57 (by simp only [List.mem_singleton, forall_eq]; omega)
      have q_58 := m_57.size
      refine nl <| nB <| nT <| rg <| vl (bad rfl rfl (inI (by omega))) rfl <| vl (mv rfl) rfl <| nl <| ?_
      have e1 : readPl (s.data.toList.take (k + 1)) = readPl (s.data.toList.take k) ++ [Lib.indexByte ([46, 35, 116, 111] : List UInt8) (s.data.toList.getD k 0)] := read_yes (by omega) h_38
      have B_5 := B_5.later (Ext.tr x_36 x_41)
      have B_5 := B_5.mod m_49 (fun hq => d_25 _ hq rfl)
      have B_5 := B_5.mod m_57 (by simp only [List.mem_singleton]; omega)
      have O_50 := O_50.mod m_57 (fun q hq h => by have hb := List.mem_singleton.1 h; exfalso; (exact Or.elim (g_51 q hq) (fun k_60 => by (exact d_26 q k_60 hb)) (fun k_60 => by omega)))
      exact nI _ _ ⟨k + 1, A_47, c_48, rfl, rfl, z_56, B_5, (by rw [e1]; exact B4), (by rw [e1]; exact O_50), by omega, (fun q hq hb => by (exact Or.elim (g_51 q hq) (fun k_61 => by (exact d_25 q k_61 hb)) (fun k_61 => by omega))), (fun q hq hb => by (exact Or.elim (g_51 q hq) (fun k_62 => by (exact d_26 q k_62 hb)) (fun k_62 => by omega)))⟩ (by omega) (.cons rfl (.cons rfl (.cons rfl (.cons rfl (.cons rfl (.cons (loI rfl (by first | omega | rfl | (simp <;> omega))) .nil))))))
    · refine sk <| nB <| nT <| rg <| vl (bad rfl rfl (inI (by omega))) rfl <| vl (mv rfl) rfl <| nl <| ?_
      have e1 : readPl (s.data.toList.take (k + 1)) = readPl (s.data.toList.take k) := read_no (by omega) h_38
      have B_5 := B_5.later x_36
      have B4 := B4.later x_36
      have OO := OO.later x_36
      exact nI _ _ ⟨k + 1, Ao, co, rfl, rfl, z_35, B_5, (by rw [e1]; exact B4), (by rw [e1]; exact OO), by omega, (fun q hq hb => by (exact d_25 q hq hb)), (fun q hq hb => by (exact d_26 q hq hb))⟩ (by omega) (.cons rfl (.cons rfl (.cons rfl (.cons rfl (.cons rfl (.cons (loI rfl (by first | omega | rfl | (simp <;> omega))) .nil))))))
  · refine xt <| xT <| xK <| xB <| nT <| sq <| sq <| rg <| vl (ld rfl (B4.all FldR_ag_api_Field FldR_sz_api_Field)) rfl <| ca FldR_en_field_Write rfl rfl ((write_any (⟨Lib.indexByte s.data.toList (10 : UInt8), ((Lib.countByte s.data.toList 10 : Nat) : Int), readPl (s.data.toList.take k)⟩ : Fld) _ _ _ OO.has).mono ?_)
    rintro e w_63 ⟨rfl, x_64⟩
    refine ⟨_, rfl, ?_⟩
    have q_65 := x_64.size
    have z_63 := Ext.tr z_27 x_64
    refine vl (mv rfl) rfl <| vl (ex rfl rfl) rfl <| vl (ex rfl rfl) rfl <| vl (as_ rfl) rfl <| vl (as_ rfl) rfl <| nl <| nT <| sq <| rg <| vl (mv rfl) rfl <| vl (bne rfl rfl) rfl <| vl (mv rfl) rfl <| vQ rfl rfl rfl rfl (fun hc => mv rfl) rfl <| vQ rfl rfl rfl rfl (fun hc => mv rfl) rfl <| vQ rfl rfl rfl rfl (fun hc => bnT Try.underlying9 (gt hc rfl) (gt hc rfl)) rfl <| vl (pO rfl rfl rfl rfl) rfl <| nl <| nT <| ?_
    refine cb rfl (fun h_66 => ?_) (fun h_66 => ?_)
    · have ek : (⟨Lib.indexByte s.data.toList (10 : UInt8), ((Lib.countByte s.data.toList 10 : Nat) : Int), readPl (s.data.toList.take k)⟩ : Fld) = readFld s := by unfold readFld; rw [List.take_of_length_le (by rw [Array.length_toList]; show s.size ≤ k; omega)]
      refine sq <| rg <| vl (v := .agg #[.int .i64 0, .int .i64 0, .slice none 0 0]) (bd rfl (by kernel_rfl)) rfl <| ?_
      have B_5 := B_5.later x_64
      refine st (new := [.int .i64 0, .int .i64 0, .slice none 0 0]) rfl rfl B_5 rfl FldR_sz_api_Field rfl rfl rfl fun w_67 m_68 B_5 => ?_
      have q_70 := m_68.size
      have z_67 := Ext.mod z_63 m_68 (by simp only [List.mem_singleton, forall_eq]; omega)
      have q_69 := m_68.size
      refine vl (as_ rfl) rfl <| nl <| nT <| rt <| tT <| tR (.cell rfl (B_5.all FldR_ag_api_Field FldR_sz_api_Field) (.tmp rfl .nil)) <| ?_
      exact read_none (by rw [← ek]; exact h_66) z_67
    · have ek : (⟨Lib.indexByte s.data.toList (10 : UInt8), ((Lib.countByte s.data.toList 10 : Nat) : Int), readPl (s.data.toList.take k)⟩ : Fld) = readFld s := by unfold readFld; rw [List.take_of_length_le (by rw [Array.length_toList]; show s.size ≤ k; omega)]
      refine sk <| nT <| sq <| rg <| ?_
      have B4 := B4.later x_64
      refine vl (ld rfl (B4.all FldR_ag_api_Field FldR_sz_api_Field)) rfl <| ?_
      have B_5 := B_5.later x_64
      refine st (new := [.int .i64 (Lib.indexByte s.data.toList (10 : UInt8)), .int .i64 (((Lib.countByte s.data.toList 10 : Nat) : Int)), .slice Ao ((readPl (s.data.toList.take k)).length) co]) rfl rfl B_5 rfl FldR_sz_api_Field rfl rfl rfl fun w_71 m_72 B_5 => ?_
      have q_74 := m_72.size
      have z_71 := Ext.mod z_63 m_72 (by simp only [List.mem_singleton, forall_eq]; omega)
      have q_73 := m_72.size
      refine vl (as_ rfl) rfl <| nl <| nT <| rt <| tR (.cell rfl (B_5.all FldR_ag_api_Field FldR_sz_api_Field) (.tmp rfl .nil)) <| ?_
      have OO := OO.later x_64
      have OO := OO.mod m_72 (fun q hq h => by have hb := List.mem_singleton.1 h; exfalso; (exact d_25 q hq hb))
      obtain ⟨r1, r2⟩ := read_ok (s := s) (by rw [← ek]; exact h_66)
      rw [r1, r2]
      exact ⟨Ao, co, by rw [← ek]; rfl, by rw [← ek]; exact OO, z_71⟩
end Go.Proofs.Ytffjpfpbpnhmcaa
