import Derived.Test.YtmpkaphcpaigdaaGolB
import Derived.Test.YtmpkaphcpaigdaaFldW
import Derived.Test.YtmpkaphcpaigdaaShelf
import Derived.Test.YtmpkaphcpaigdaaAsp
import Derived.Test.YtmpkaphcpaigdaaGol
import Derived.Test.YtmpkaphcpaigdaaPts
import Derived.Test.YtmpkaphcpaigdaaNod
import Derived.Test.YtmpkaphcpaigdaaBas
import Derived.Test.YtmpkaphcpaigdaaProg
set_option linter.unusedVariables false
set_option linter.unusedSimpArgs false
set_option maxRecDepth 100000
set_option maxHeartbeats 4000000
namespace Go.Proofs.Ytmpkaphcpaigdaa
section
open Go.RowKit
theorem FldR_el_S_int : ElT Try.prog repI 22 3 8 := ElT.mk_ (z := .int .i64 0) (k := 1) Try.underlying22 info_int rfl rfl (by decide) (fun j u h => raw0I j u h)
theorem idxB (s : ByteArray) (b : UInt8) (w : World) : Calls Try.prog 63 #[.string s, .int .u8 (b.toNat : Int)] w fun e w' => e = .returned (.int .i64 (Lib.indexByte s.data.toList b)) ∧ Ext w w' :=
 (Try.strings_IndexByte s (b.toNat : Int) w).mono fun e w' h => ⟨by rw [h.1]; simp, by rw [h.2]; exact Ext.rf _⟩
theorem cntB (s : ByteArray) (b : UInt8) (w : World) : Calls Try.prog 64 #[.string s, .string (bytesS [b])] w fun e w' => e = .returned (.int .i64 ((Lib.countByte s.data.toList b : Nat) : Int)) ∧ Ext w w' :=
 (Try.strings_Count_one s b w).mono fun e w' h => ⟨by rw [h.1], by rw [h.2]; exact Ext.rf _⟩
theorem str_get {s : ByteArray} {k : Nat} (h : k < s.size) : s.data.toList[(k : Int).toNat]? = some (s.data.toList.getD k 0) := by
 rw [Int.toNat_natCast]
 exact get_d (by rw [Array.length_toList]; exact h)
theorem idx_bd : ∀ (l : List UInt8) (b : UInt8), -1 ≤ Lib.indexByte l b ∧ Lib.indexByte l b < (l.length : Int)
 | [], b => ⟨Int.le_refl _, by show (-1 : Int) < 0; omega⟩
 | x :: l, b => by
  have := idx_bd l b
  unfold Lib.indexByte
  rw [List.length_cons]
  split
  ·omega
  ·split <;> omega
def readPl (l : List UInt8) : List Int := (l.map fun b => Lib.indexByte ([46, 35, 116, 111] : List UInt8) b).filter fun n => decide (0 ≤ n)
theorem readPl_len (l : List UInt8) : (readPl l).length ≤ l.length := by unfold readPl; exact Nat.le_trans (List.length_filter_le _ _) (by rw [List.length_map]; exact Nat.le_refl _)
theorem readPl_take {l : List UInt8} {k : Nat} (hk : k < l.length) : readPl (l.take (k + 1)) = readPl (l.take k) ++ [Lib.indexByte ([46, 35, 116, 111] : List UInt8) (l.getD k 0)].filter fun n => decide (0 ≤ n) := by
 rw [List.take_succ_eq_append_getElem hk]
 unfold readPl
 rw [List.map_append, List.filter_append, List.getD_eq_getElem?_getD, List.getElem?_eq_getElem hk]; rfl
theorem read_yes {s : ByteArray} {k : Nat} (hk : k < s.size) (h : 0 ≤ Lib.indexByte ([46, 35, 116, 111] : List UInt8) (s.data.toList.getD k 0)) : readPl (s.data.toList.take (k + 1)) = readPl (s.data.toList.take k) ++ [Lib.indexByte ([46, 35, 116, 111] : List UInt8) (s.data.toList.getD k 0)] := by
 rw [readPl_take (by rw [Array.length_toList]; exact hk), List.filter_cons, if_pos (decide_eq_true h)]; rfl
theorem read_no {s : ByteArray} {k : Nat} (hk : k < s.size) (h : ¬ 0 ≤ Lib.indexByte ([46, 35, 116, 111] : List UInt8) (s.data.toList.getD k 0)) : readPl (s.data.toList.take (k + 1)) = readPl (s.data.toList.take k) := by
 rw [readPl_take (by rw [Array.length_toList]; exact hk), List.filter_cons, if_neg (by rw [decide_eq_false h]; decide)]; simp
def readFld (s : ByteArray) : Fld := ⟨Lib.indexByte s.data.toList 10, ((Lib.countByte s.data.toList 10 : Nat) : Int), readPl s.data.toList⟩
def readE (s : ByteArray) : Int := if ((readFld s).chk != 0 || !decide (fldText (readFld s) = s)) = true then 4 else 0
def readW (s : ByteArray) : Fld := if ((readFld s).chk != 0 || !decide (fldText (readFld s) = s)) = true then ⟨0, 0, []⟩ else readFld s
theorem read_ok {s : ByteArray} (h : ((readFld s).chk != 0 || !decide (fldText (readFld s) = s)) = false) : readW s = readFld s ∧ readE s = 0 := by unfold readW readE; rw [h]; exact ⟨rfl, rfl⟩
theorem read_none {s : ByteArray} {w w' : World} (h : ((readFld s).chk != 0 || !decide (fldText (readFld s) = s)) = true) (x : Ext w w') : ∃ A c, (Ending.returned (.tuple #[.agg #[.int .i64 0, .int .i64 0, .slice none 0 0], .int .i64 4]) = .returned (.tuple #[.agg #[.int .i64 (readW s).wide, .int .i64 (readW s).high, .slice A (readW s).places.length c], .int .i64 (readE s)])) ∧ repI.SOwn 3 8 w' w.heap.size (Rep.blkOf A) A c (readW s).places ∧ Ext w w' := by
 have e1 : readW s = ⟨0, 0, []⟩ := by unfold readW; rw [if_pos h]
 have e2 : readE s = 4 := by unfold readE; rw [if_pos h]
 rw [e1, e2]
 exact ⟨none, 0, rfl, Rep.SOwn.nil _, x⟩
theorem read_any (s : ByteArray) (w : World) (hs : s.size ≤ 17592186044415) :
  Calls Try.prog 38 #[.string s] w (fun e w' => ∃ A c, e = .returned (.tuple #[.agg #[.int .i64 (readW s).wide, .int .i64 (readW s).high, .slice A (readW s).places.length c], .int .i64 (readE s)]) ∧ repI.SOwn 3 8 w' w.heap.size (Rep.blkOf A) A c (readW s).places ∧ Ext w w') := by
 refine calls_W (n := 46) Try.func38 rfl rfl rfl ?_
 refine sq <| rg <| al rfl eF56 rfl rfl fun w_1 b_2 x_3 l_4 B_5 => ?_
 have q_6 := x_3.size
 have z_1 := Ext.tr (Ext.rf w) x_3
 have q_7 := B_5.lt
 refine vl (as_ rfl) rfl <| nl <| nT <| sq <| rg <| vl (mv rfl) rfl <| ca eF57 rfl rfl ((idxB s (10 : UInt8) _).mono ?_)
 rintro e w_8 ⟨rfl, x_9⟩
 refine ⟨_, rfl, ?_⟩
 have q_10 := x_9.size
 have z_8 := Ext.tr z_1 x_9
 refine vl (mv rfl) rfl <| ca eF58 rfl rfl ((cntB s 10 _).mono ?_)
 rintro e w_11 ⟨rfl, x_12⟩
 refine ⟨_, rfl, ?_⟩
 have q_13 := x_12.size
 have z_11 := Ext.tr z_8 x_12
 refine vl (v := .agg #[.int .i64 (Lib.indexByte s.data.toList (10 : UInt8)), .int .i64 (((Lib.countByte s.data.toList 10 : Nat) : Int)), .slice none 0 0]) (bd rfl (by kernel_rfl)) rfl <| al rfl eF56 rfl rfl fun w_14 b_15 x_16 l_17 B_18 => ?_
 have q_19 := x_16.size
 have z_14 := Ext.tr z_11 x_16
 have q_20 := B_18.lt
 refine st (new := [.int .i64 (Lib.indexByte s.data.toList (10 : UInt8)), .int .i64 (((Lib.countByte s.data.toList 10 : Nat) : Int)), .slice none 0 0]) rfl rfl B_18 rfl eF23 rfl rfl rfl fun w_21 m_22 B_18 => ?_
 have q_24 := m_22.size
 have z_21 := Ext.mod z_14 m_22 (ge1 (by omega))
 have q_23 := m_22.size
 refine nl <| nT <| sq <| sq <| rg <| vl (mv rfl) rfl <| vl (lnS Try.underlying9 rfl (by omega)) rfl <| vl (mv rfl) rfl <| nl <| nT <| bk <| ?_
 have B_5 := B_5.later (Ext.tr x_9 (Ext.tr x_12 x_16))
 have B_5 := B_5.mod m_22 (nm1 (by omega))
 refine lp (fun mI EI wI => ∃ k : Nat, ∃ Ao : Option Addr, ∃ co : Nat, EI = [(0, .string s), (2, .pointer (some ⟨b_2, 0, none⟩)), (3, .int .i64 0), (4, .pointer (some ⟨b_15, 0, none⟩)), (15, .int .i64 (((s).size : Int))), (16, .int .i64 (k : Int))] ∧ mI = s.size - k ∧ Ext w wI ∧ Blk wI b_2 [.int .i64 0, .int .i64 0, .slice none 0 0] 24 (0, 0) ∧ Blk wI b_15 [.int .i64 (Lib.indexByte s.data.toList (10 : UInt8)), .int .i64 (((Lib.countByte s.data.toList 10 : Nat) : Int)), .slice Ao ((readPl (s.data.toList.take k)).length) co] 24 (0, 0) ∧ repI.SOwn 3 8 wI w.heap.size (Rep.blkOf Ao) Ao co (readPl (s.data.toList.take k)) ∧ (k ≤ s.size) ∧ (∀ q ∈ Rep.blkOf Ao, q = b_2 → False) ∧ (∀ q ∈ Rep.blkOf Ao, q = b_15 → False)) _ _ ⟨0, none, 0, rfl, rfl, z_21, B_5, B_18, (Rep.SOwn.nil _), by omega, (fun q hq hb => by (simp [Rep.blkOf] at hq)), (fun q hq hb => by (simp [Rep.blkOf] at hq))⟩ (.cons rfl (.cons rfl (.cons rfl (.cons rfl (.cons rfl (.cons (loI rfl (by first | omega | rfl | (simp <;> omega))) .nil)))))) ?_
 rintro m_28 E_29 w_27 ⟨k, Ao, co, rfl, rfl, z_27, B_5, B4, OO, hk, d_25, d_26⟩
 have q_30 := z_27.size
 have q_31 := B_5.lt
 have q_32 := B4.lt
 have u_33 := fun q hq => (OO.lt q hq).2
 have hrl := readPl_len (s.data.toList.take k)
 have htl : (s.data.toList.take k).length ≤ k := List.length_take_le _ _
 refine sq <| rg <| vl (blt rfl rfl) rfl <| nl <| nT <| sq <| ?_
 refine clt rfl (fun h_34 => ?_) (fun h_34 => ?_)
 ·have hib := idx_bd ([46, 35, 116, 111] : List UInt8) (s.data.toList.getD k 0)
  refine sk <| nT <| sq <| bk <| sq <| rg <| vl (mv rfl) rfl <| vl (as_ rfl) rfl <| nl <| nT <| sq <| rg <| vl (mv rfl) rfl <| vl (mv rfl) rfl <| vl (si Try.underlying9 rfl rfl (by omega) (str_get (s := s) (by omega))) rfl <| ca eF57 rfl rfl ((idxB (bytesS [46, 35, 116, 111]) (s.data.toList.getD k 0) _).mono ?_)
  rintro e w_35 ⟨rfl, x_36⟩
  refine ⟨_, rfl, ?_⟩
  have q_37 := x_36.size
  have z_35 := Ext.tr z_27 x_36
  refine vl (as_ rfl) rfl <| nl <| nT <| sq <| rg <| vl (mv rfl) rfl <| vl (bge rfl rfl) rfl <| nl <| nT <| ?_
  refine cle rfl (fun h_38 => ?_) (fun h_38 => ?_)
  ·refine rg <| vl (fa eF45 rfl) rfl <| ?_
   have B4 := B4.later x_36
   refine vl (ld rfl (B4.one eF35 rfl)) rfl <| vl (mv rfl) rfl <| bs (e := 3) (cs := [.int .i64 (Lib.indexByte ([46, 35, 116, 111] : List UInt8) (s.data.toList.getD k 0))]) rfl (fun _ => by kernel_rfl) rfl fun w_39 b_40 x_41 l_42 B_43 => ?_
   have q_44 := x_41.size
   have z_39 := Ext.tr z_35 x_41
   have q_45 := B_43.lt
   have OO := OO.later (Ext.tr x_36 x_41)
   refine ap FldR_el_S_int Rep.flat_bare OO (Blk.has1 (R := repI) (by_ := 8) (q := Lib.indexByte ([46, 35, 116, 111] : List UInt8) (s.data.toList.getD k 0)) B_43 ⟨rfl, okI_iff.2 (by have := hib.2; simp only [List.length_cons, List.length_nil] at this; omega)⟩ (by decide)) rfl rfl (by simp only [List.length_cons, List.length_nil]; omega) (by simp only [List.length_cons, List.length_nil]; omega) z_39.size rfl fun w_46 A_47 c_48 m_49 O_50 g_51 n_52 => ?_
   have q_53 := m_49.size
   have z_46 := Ext.mod z_39 m_49 (fun q hq => (OO.lt q hq).1)
   have u_54 := fun q hq => (O_50.lt q hq).2
   have q_55 := m_49.size
   refine vl (fa eF45 rfl) rfl <| ?_
   have B4 := B4.later x_41
   have B4 := B4.mod m_49 (fun hq => d_26 _ hq rfl)
   refine st (new := [.int .i64 (Lib.indexByte s.data.toList (10 : UInt8)), .int .i64 (((Lib.countByte s.data.toList 10 : Nat) : Int)), .slice A_47 ((readPl (s.data.toList.take k) ++ [Lib.indexByte ([46, 35, 116, 111] : List UInt8) (s.data.toList.getD k 0)]).length) c_48]) rfl rfl B4 rfl eF59 rfl rfl rfl fun w_56 m_57 B4 => ?_
   have q_59 := m_57.size
   have z_56 := Ext.mod z_46 m_57 (ge1 (by omega))
   have q_58 := m_57.size
   refine nl <| nB <| nT <| rg <| vl (bad rfl rfl (inI (by omega))) rfl <| vl (mv rfl) rfl <| nl <| ?_
   have e1 : readPl (s.data.toList.take (k + 1)) = readPl (s.data.toList.take k) ++ [Lib.indexByte ([46, 35, 116, 111] : List UInt8) (s.data.toList.getD k 0)] := read_yes (by omega) h_38
   have B_5 := B_5.later (Ext.tr x_36 x_41)
   have B_5 := B_5.mod m_49 (fun hq => d_25 _ hq rfl)
   have B_5 := B_5.mod m_57 (nm1 (by omega))
   have O_50 := O_50.mod m_57 (fun q hq h => by have hb := List.mem_singleton.1 h; exfalso; (exact Or.elim (g_51 q hq) (fun k_60 => by (exact d_26 q k_60 hb)) (fun k_60 => by omega)))
   exact nI _ _ ⟨k + 1, A_47, c_48, rfl, rfl, z_56, B_5, (by rw [e1]; exact B4), (by rw [e1]; exact O_50), by omega, (fun q hq hb => by (exact Or.elim (g_51 q hq) (fun k_61 => by (exact d_25 q k_61 hb)) (fun k_61 => by omega))), (fun q hq hb => by (exact Or.elim (g_51 q hq) (fun k_62 => by (exact d_26 q k_62 hb)) (fun k_62 => by omega)))⟩ (by omega) (.cons rfl (.cons rfl (.cons rfl (.cons rfl (.cons rfl (.cons (loI rfl (by first | omega | rfl | (simp <;> omega))) .nil))))))
  ·refine sk <| nB <| nT <| rg <| vl (bad rfl rfl (inI (by omega))) rfl <| vl (mv rfl) rfl <| nl <| ?_
   have e1 : readPl (s.data.toList.take (k + 1)) = readPl (s.data.toList.take k) := read_no (by omega) h_38
   have B_5 := B_5.later x_36
   have B4 := B4.later x_36
   have OO := OO.later x_36
   exact nI _ _ ⟨k + 1, Ao, co, rfl, rfl, z_35, B_5, (by rw [e1]; exact B4), (by rw [e1]; exact OO), by omega, (fun q hq hb => by (exact d_25 q hq hb)), (fun q hq hb => by (exact d_26 q hq hb))⟩ (by omega) (.cons rfl (.cons rfl (.cons rfl (.cons rfl (.cons rfl (.cons (loI rfl (by first | omega | rfl | (simp <;> omega))) .nil))))))
 ·refine xt <| xT <| xK <| xB <| nT <| sq <| sq <| rg <| vl (ld rfl (B4.all eF22 eF23)) rfl <| ca eF60 rfl rfl ((write_any (⟨Lib.indexByte s.data.toList (10 : UInt8), ((Lib.countByte s.data.toList 10 : Nat) : Int), readPl (s.data.toList.take k)⟩ : Fld) _ _ _ OO.has).mono ?_)
  rintro e w_63 ⟨rfl, x_64⟩
  refine ⟨_, rfl, ?_⟩
  have q_65 := x_64.size
  have z_63 := Ext.tr z_27 x_64
  refine vl (mv rfl) rfl <| vl (ex rfl rfl) rfl <| vl (ex rfl rfl) rfl <| vl (as_ rfl) rfl <| vl (as_ rfl) rfl <| nl <| nT <| sq <| rg <| vl (mv rfl) rfl <| vl (bne rfl rfl) rfl <| vl (mv rfl) rfl <| vQ rfl rfl rfl rfl (fun hc => mv rfl) rfl <| vQ rfl rfl rfl rfl (fun hc => mv rfl) rfl <| vQ rfl rfl rfl rfl (fun hc => bnT Try.underlying9 (gt hc rfl) (gt hc rfl)) rfl <| vl (pO rfl rfl rfl rfl) rfl <| nl <| nT <| ?_
  refine cb rfl (fun h_66 => ?_) (fun h_66 => ?_)
  ·have ek : (⟨Lib.indexByte s.data.toList (10 : UInt8), ((Lib.countByte s.data.toList 10 : Nat) : Int), readPl (s.data.toList.take k)⟩ : Fld) = readFld s := by unfold readFld; rw [List.take_of_length_le (by rw [Array.length_toList]; show s.size ≤ k; omega)]
   refine sq <| rg <| vl (v := .agg #[.int .i64 0, .int .i64 0, .slice none 0 0]) (bd rfl (by kernel_rfl)) rfl <| ?_
   have B_5 := B_5.later x_64
   refine st (new := [.int .i64 0, .int .i64 0, .slice none 0 0]) rfl rfl B_5 rfl eF23 rfl rfl rfl fun w_67 m_68 B_5 => ?_
   have q_70 := m_68.size
   have z_67 := Ext.mod z_63 m_68 (ge1 (by omega))
   have q_69 := m_68.size
   refine vl (as_ rfl) rfl <| nl <| nT <| rt <| tT <| tR (.cell rfl (B_5.all eF22 eF23) (.tmp rfl .nil)) <| ?_
   exact read_none (by rw [← ek]; exact h_66) z_67
  ·have ek : (⟨Lib.indexByte s.data.toList (10 : UInt8), ((Lib.countByte s.data.toList 10 : Nat) : Int), readPl (s.data.toList.take k)⟩ : Fld) = readFld s := by unfold readFld; rw [List.take_of_length_le (by rw [Array.length_toList]; show s.size ≤ k; omega)]
   refine sk <| nT <| sq <| rg <| ?_
   have B4 := B4.later x_64
   refine vl (ld rfl (B4.all eF22 eF23)) rfl <| ?_
   have B_5 := B_5.later x_64
   refine st (new := [.int .i64 (Lib.indexByte s.data.toList (10 : UInt8)), .int .i64 (((Lib.countByte s.data.toList 10 : Nat) : Int)), .slice Ao ((readPl (s.data.toList.take k)).length) co]) rfl rfl B_5 rfl eF23 rfl rfl rfl fun w_71 m_72 B_5 => ?_
   have q_74 := m_72.size
   have z_71 := Ext.mod z_63 m_72 (ge1 (by omega))
   have q_73 := m_72.size
   refine vl (as_ rfl) rfl <| nl <| nT <| rt <| tR (.cell rfl (B_5.all eF22 eF23) (.tmp rfl .nil)) <| ?_
   have OO := OO.later x_64
   have OO := OO.mod m_72 (fun q hq h => by have hb := List.mem_singleton.1 h; exfalso; (exact d_25 q hq hb))
   obtain ⟨r1, r2⟩ := read_ok (s := s) (by rw [← ek]; exact h_66)
   rw [r1, r2]
   exact ⟨Ao, co, by rw [← ek]; rfl, by rw [← ek]; exact OO, z_71⟩
end
section
open Go.RowKit
def sightF : Fld := ⟨3, 2, [0, 1, 0, 0, 0, 0]⟩
end
section
open Go.RowKit
theorem Eql_eqs_api_Cell : EqS Try.prog Cel.cells 35 := by
 intro a b w
 obtain ⟨a0, a1⟩ := a
 obtain ⟨b0, b1⟩ := b
 simp only [Cel.cells, Cel.mk.injEq]
 constructor
 ·go_simp
  repeat' split
  all_goals simp_all
 ·go_simp
  repeat' split
  all_goals simp_all
theorem Eql_eqg_api_Cell : (Try.prog).eqGuardType (Try.prog).depth 35 = false := by kernel_rfl
theorem eq_all {α : Type} {l m : List α} {k : Nat} (h1 : l.length = m.length) (hk : l.length ≤ k) (h : ∀ j, j < k → l[j]? = m[j]?) : l = m := by
 apply List.ext_getElem?
 intro j
 by_cases hj : j < k
 ·exact h j hj
 ·rw [List.getElem?_eq_none (by omega), List.getElem?_eq_none (by omega)]
theorem ne_of_nb {α : Type} [DecidableEq α] {a b : α} (h : (!decide (a = b)) = true) : ¬ a = b := by simpa using h
theorem eq_of_nb {α : Type} [DecidableEq α] {a b : α} (h : (!decide (a = b)) = false) : a = b := by simpa using h
theorem equal_C (A B : Option Addr) (c d b1 b2 : Nat) (l m : List Cel) (w : World) (h1 : Cel.rep.SHas b1 w A c l) (h2 : Cel.rep.SHas b2 w B d m) :
  Calls Try.prog 44 #[.slice A l.length c, .slice B m.length d] w (fun e w' => e = .returned (.bool (decide (l = m))) ∧ Ext w w') := by
 have hle := h1.len_le
 refine calls_W (n := 26) Try.func44 rfl rfl rfl ?_
 refine sq <| rg <| vl (as_ rfl) rfl <| nl <| nT <| sq <| sq <| rg <| vl (mv rfl) rfl <| vl (ln Try.underlying25 rfl) rfl <| vl (mv rfl) rfl <| vl (ln Try.underlying25 rfl) rfl <| vl (bne rfl rfl) rfl <| nl <| nT <| ?_
 refine cne rfl (fun h_1 => ?_) (fun h_1 => ?_)
 ·refine sq <| rg <| vl (as_ rfl) rfl <| nl <| nT <| rt <| tT <| tR (.tmp rfl .nil) <| ?_
  rw [decide_eq_false (fun e => h_1 (by rw [e]))]
  exact ⟨rfl, (Ext.rf w)⟩
 ·refine sk <| nT <| sq <| sq <| rg <| vl (mv rfl) rfl <| vl (ln Try.underlying25 rfl) rfl <| vl (mv rfl) rfl <| nl <| nT <| bk <| ?_
  refine lp (fun mI EI wI => ∃ k : Nat, EI = [(0, .slice A l.length c), (1, .slice B m.length d), (12, .int .i64 (l.length : Int)), (13, .int .i64 (k : Int))] ∧ mI = l.length - k ∧ Ext w wI ∧ (k ≤ l.length) ∧ (∀ j, j < k → l[j]? = m[j]?)) _ _ ⟨0, rfl, rfl, (Ext.rf w), by omega, fun j hj => absurd hj (by omega)⟩ (.cons rfl (.cons rfl (.cons rfl (.cons (loI rfl (by first | omega | rfl | (simp <;> omega))) .nil)))) ?_
  rintro m_3 E_4 w_2 ⟨k, rfl, rfl, z_2, hk, hk2⟩
  have q_5 := z_2.size
  have hle := h1.len_le
  have hle2 := h2.len_le
  refine sq <| rg <| vl (blt rfl rfl) rfl <| nl <| nT <| sq <| ?_
  refine clt rfl (fun h_6 => ?_) (fun h_6 => ?_)
  ·obtain ⟨x1, hx1⟩ := get_of (l := l) (i := k) (by omega)
   obtain ⟨y1, hy1⟩ := get_of (l := m) (i := k) (by omega)
   refine sk <| nT <| sq <| bk <| sq <| rg <| vl (mv rfl) rfl <| vl (as_ rfl) rfl <| nl <| nT <| sq <| ?_
   refine rd [(3, 0), (7, 0)] [0, 1, 2, 3, 4, 5, 6, 7, 8] (by kernel_rfl) (by kernel_rfl) ?_
   refine fw rfl rfl (fun _ => mv rfl) rfl <| fw rfl rfl (fun _ => mv rfl) rfl <| fw rfl rfl (fun _ => iA k Try.underlying25 eF4 rfl rfl ((h1.keep z_2).adr (Nat.zero_lt_of_lt (show k < _ from (by omega)))) rfl (by omega)) rfl <| fq rfl rfl (fun _ x => ld rfl (Rep.SHas.elt hcC (by rw [← (h1.keep (Ext.tr z_2 x)).adr (Nat.zero_lt_of_lt (show k < _ from (by omega)))]; exact (h1.keep (Ext.tr z_2 x))) hx1 eF3 eF4)) rfl <| fw rfl rfl (fun _ => mv rfl) rfl <| fw rfl rfl (fun _ => mv rfl) rfl <| fw rfl rfl (fun _ => iA k Try.underlying25 eF4 rfl rfl ((h2.keep z_2).adr (Nat.zero_lt_of_lt (show k < _ from (by omega)))) rfl (by omega)) rfl <| fq rfl rfl (fun _ x => ld rfl (Rep.SHas.elt hcC (by rw [← (h2.keep (Ext.tr z_2 x)).adr (Nat.zero_lt_of_lt (show k < _ from (by omega)))]; exact (h2.keep (Ext.tr z_2 x))) hy1 eF3 eF4)) rfl <| fw rfl rfl (fun _ => bnS Eql_eqs_api_Cell Eql_eqg_api_Cell (p := x1) (q := y1) rfl rfl) rfl <| fn fun w_7 x_8 => ?_
   have q_9 := x_8.size
   have z_7 := Ext.tr z_2 x_8
   refine nT <| ?_
   refine cb rfl (fun h_10 => ?_) (fun h_10 => ?_)
   ·refine sq <| rg <| vl (as_ rfl) rfl <| nl <| nT <| rt <| tB <| tT <| tK <| tB <| tT <| tR (.tmp rfl .nil) <| ?_
    rw [decide_eq_false (fun e => by rw [e, hy1] at hx1; injection hx1 with hx1; exact absurd hx1.symm (by first | exact ne_of_nb h_10 | exact h_10))]
    exact ⟨rfl, z_7⟩
   ·refine sk <| nB <| nT <| rg <| vl (bad rfl rfl (inI (by omega))) rfl <| vl (mv rfl) rfl <| nl <| ?_
    exact nI _ _ ⟨k + 1, rfl, rfl, z_7, by omega, lt_succ_all hk2 (by rw [hx1, hy1, (by first | exact eq_of_nb h_10 | exact h_10 : x1 = y1)])⟩ (by omega) (.cons rfl (.cons rfl (.cons rfl (.cons (loI rfl (by first | omega | rfl | (simp <;> omega))) .nil))))
  ·refine xt <| xT <| xK <| xB <| nT <| sq <| rg <| vl (as_ rfl) rfl <| nl <| nT <| rt <| tR (.tmp rfl .nil) <| ?_
   rw [decide_eq_true (eq_all (by omega) (by omega) hk2)]
   exact ⟨rfl, z_2⟩
end
section
open Go.RowKit
def pathFl : Fld := ⟨2, 2, [0, 1, 0, 0]⟩
theorem read_path (w : World) : Calls Try.prog 38 #[.string (bytesS [46, 35, 10, 46, 46, 10])] w fun e w' => ∃ A c, e = .returned (.tuple #[.agg #[.int .i64 pathFl.wide, .int .i64 pathFl.high, .slice A pathFl.places.length c], .int .i64 0]) ∧ repI.SOwn 3 8 w' w.heap.size (Rep.blkOf A) A c pathFl.places ∧ Ext w w' := by
 have e1 : readW (bytesS [46, 35, 10, 46, 46, 10]) = pathFl := by decide +kernel
 have e2 : readE (bytesS [46, 35, 10, 46, 46, 10]) = 0 := by decide +kernel
 have := read_any (bytesS [46, 35, 10, 46, 46, 10]) w (by decide)
 rw [e1, e2] at this
 exact this
theorem pathLives_any  (w : World) :
  Calls Try.prog 20 #[] w (fun e w' => e = .returned (.bool true) ∧ Ext w w') := by
 refine calls_W (n := 36) Try.func20 rfl rfl rfl ?_
 refine sq <| rg <| vl (as_ rfl) rfl <| nl <| nT <| sq <| rg <| ca eF61 rfl rfl ((read_path _).mono ?_)
 rintro e w_4 ⟨A_1, c_1, rfl, OR_1, x_5⟩
 refine ⟨_, rfl, ?_⟩
 have q_6 := x_5.size
 have z_4 := Ext.tr (Ext.rf w) x_5
 have u_2 := fun q hq => (OR_1.lt q hq).2
 have lo_3 := fun q hq => (OR_1.lt q hq).1
 refine vl (mv rfl) rfl <| vl (ex rfl rfl) rfl <| vl (ex rfl rfl) rfl <| al rfl eF56 rfl rfl fun w_7 b_8 x_9 l_10 B_11 => ?_
 have q_12 := x_9.size
 have z_7 := Ext.tr z_4 x_9
 have q_13 := B_11.lt
 refine st (new := [.int .i64 pathFl.wide, .int .i64 pathFl.high, .slice A_1 pathFl.places.length c_1]) rfl rfl B_11 rfl eF23 rfl rfl rfl fun w_14 m_15 B_11 => ?_
 have q_17 := m_15.size
 have z_14 := Ext.mod z_7 m_15 (ge1 (by omega))
 have q_16 := m_15.size
 refine vl (as_ rfl) rfl <| nl <| nT <| sq <| rg <| vl (ld rfl (B_11.all eF22 eF23)) rfl <| vl (v := .agg #[.int .i64 0, .int .i64 0]) (bd rfl (by kernel_rfl)) rfl <| vl (v := .agg #[.int .i64 1, .int .i64 1]) (bd rfl (by kernel_rfl)) rfl <| ?_
 have OR_1 := OR_1.later x_9
 have OR_1 := OR_1.mod m_15 (fk1 u_2 (by omega))
 have hfs := pfind_any pathFl (⟨0, 0⟩ : Cel) (⟨1, 1⟩ : Cel) _ _ _ OR_1.has
 rw [show findE pathFl (⟨0, 0⟩ : Cel) (⟨1, 1⟩ : Cel) = 0 from find_small.1, show findK pathFl (⟨0, 0⟩ : Cel) (⟨1, 1⟩ : Cel) = 4 from find_small.2.1, show findP pathFl (⟨0, 0⟩ : Cel) (⟨1, 1⟩ : Cel) = [⟨0, 0⟩, ⟨0, 1⟩, ⟨1, 1⟩] from find_small.2.2] at hfs
 refine ca eF62 rfl rfl ((hfs).mono ?_)
 rintro e w_21 ⟨A_18, c_18, rfl, OP_18, x_22⟩
 refine ⟨_, rfl, ?_⟩
 have q_23 := x_22.size
 have z_21 := Ext.tr z_14 x_22
 have u_19 := fun q hq => (OP_18.lt q hq).2
 have lo_20 := fun q hq => (OP_18.lt q hq).1
 have hcp_18 := OP_18.has.1
 refine vl (mv rfl) rfl <| vl (ex rfl rfl) rfl <| vl (ex rfl rfl) rfl <| vl (ex rfl rfl) rfl <| vl (as_ rfl) rfl <| vl (as_ rfl) rfl <| vl (as_ rfl) rfl <| nl <| nT <| sq <| rg <| vl (mv rfl) rfl <| vl (beq rfl rfl) rfl <| vl (mv rfl) rfl <| ug rfl rfl rfl <| vl (mv rfl) rfl <| ug rfl rfl rfl <| vl (beq rfl rfl) rfl <| vl (pkT rfl rfl) rfl <| vl (mv rfl) rfl <| ug rfl rfl rfl <| vl (mv rfl) rfl <| ug rfl rfl rfl <| vl (beq rfl rfl) rfl <| ?_
 refine vl (pkT rfl rfl) rfl <| vl (mv rfl) rfl <| ug rfl rfl rfl <| vl (mv rfl) rfl <| ug rfl rfl rfl <| vl (v := .agg #[.int .i64 0, .int .i64 0]) (bd rfl (by kernel_rfl)) rfl <| ug rfl rfl rfl <| vl (v := .agg #[.int .i64 0, .int .i64 1]) (bd rfl (by kernel_rfl)) rfl <| ug rfl rfl rfl <| vl (v := .agg #[.int .i64 1, .int .i64 1]) (bd rfl (by kernel_rfl)) rfl <| ug rfl rfl rfl <| bs (e := 35) (cs := [.int .i64 0, .int .i64 0, .int .i64 0, .int .i64 1, .int .i64 1, .int .i64 1]) rfl (fun _ => by kernel_rfl) rfl fun w_24 b_25 x_26 l_27 B_28 => ?_
 have q_29 := x_26.size
 have z_24 := Ext.tr z_21 x_26
 have q_30 := B_28.lt
 refine ug rfl rfl rfl <| ?_
 have OP_18 := OP_18.later x_26
 refine ca eF63 rfl rfl ((equal_C _ _ _ _ _ _ ([(⟨0, 0⟩ : Cel), (⟨0, 1⟩ : Cel), (⟨1, 1⟩ : Cel)]) ([(⟨0, 0⟩ : Cel), (⟨0, 1⟩ : Cel), (⟨1, 1⟩ : Cel)]) _ OP_18.has (Blk.hasN (R := Cel.rep) (by_ := 16) (k := [(⟨0, 0⟩ : Cel), (⟨0, 1⟩ : Cel), (⟨1, 1⟩ : Cel)]) B_28 [[.int .i64 0, .int .i64 0], [.int .i64 0, .int .i64 1], [.int .i64 1, .int .i64 1]] rfl (⟨⟨rfl, okI_iff.2 (by decide), okI_iff.2 (by decide)⟩, ⟨⟨rfl, okI_iff.2 (by decide), okI_iff.2 (by decide)⟩, ⟨⟨rfl, okI_iff.2 (by decide), okI_iff.2 (by decide)⟩, trivial⟩⟩⟩) (by simp) (by simp))).mono ?_)
 rintro e w_31 ⟨rfl, x_32⟩
 refine ⟨_, rfl, ?_⟩
 have q_33 := x_32.size
 have z_31 := Ext.tr z_24 x_32
 refine vl (pkT rfl rfl) rfl <| vl (as_ rfl) rfl <| nl <| nT <| rt <| tR (.tmp rfl .nil) <| ?_
 exact ⟨ret_true (by decide), z_31⟩
end
section
open Go.RowKit
theorem nodup_le : ∀ (n : Nat) (l : List Nat), l.Nodup → (∀ x ∈ l, x < n) → l.length ≤ n := by
 intro n
 induction n with
 | zero =>
  intro l _ h
  cases l with
  | nil => exact Nat.le_refl _
  | cons x r => exact absurd (h x List.mem_cons_self) (by omega)
 | succ n ih =>
  intro l hn h
  by_cases hm : n ∈ l
  ·have h1 := ih (l.erase n) (hn.erase _) (fun x hx => by
    have := h x (List.mem_of_mem_erase hx)
    have hne : x ≠ n := fun e => by subst e; exact (List.Nodup.not_mem_erase hn) hx
    omega)
   rw [List.length_erase_of_mem hm] at h1
   omega
  ·have := ih l hn (fun x hx => by
    have := h x hx
    have hne : x ≠ n := fun e => hm (by rw [← e]; exact hx)
    omega)
   omega
section
variable {f : Fld} {a b c x y : Cel} {d D : Int} {far : List Int} {fr : Cel → Int}
theorem cells_le (hf : f.chk = 0) {l : List Cel} (hn : l.Nodup) (hi : ∀ x ∈ l, f.isIn x = true) : l.length ≤ f.places.length := by
 have h1 : (l.map f.at_).Nodup := by
  have : ∀ l : List Cel, l.Nodup → (∀ x ∈ l, f.isIn x = true) → (l.map f.at_).Nodup := by
   intro l
   induction l with
   | nil => intro _ _; exact List.nodup_nil
   | cons x r ih =>
    intro hn hi
    rw [List.nodup_cons] at hn
    rw [List.map_cons, List.nodup_cons]
    refine ⟨fun hm => ?_, ih hn.2 fun y hy => hi y (List.mem_cons_of_mem _ hy)⟩
    obtain ⟨y, hy, e⟩ := List.mem_map.1 hm
    have := Fld.at_inj hf (hi y (List.mem_cons_of_mem _ hy)) (hi x List.mem_cons_self) e
    subst this; exact hn.1 hy
  exact this l hn hi
 have := nodup_le f.places.length _ h1 (fun i hm => by
  obtain ⟨y, hy, rfl⟩ := List.mem_map.1 hm
  exact (Fld.at_lt hf (hi y hy)).1)
 rwa [List.length_map] at this
abbrev RchF (f : Fld) (a : Cel) : Cel → Int → Prop := Gra.Rch f.adj f.kost (fun s => s = a)
abbrev DstF (f : Fld) (a : Cel) : Cel → Int → Prop := Gra.IsD f.adj f.kost (fun s => s = a)
theorem RchF.nn (r : RchF f a x d) : 0 ≤ d := Gra.Rch.nn (Fld.okZ f) r
theorem RchF.ground (ha : f.ground a = true) (r : RchF f a x d) : f.ground x = true := by
 induction r with
 | start hs => rw [hs]; exact ha
 | step _ hy _ => exact (Fld.mem_adj.1 hy).2
theorem RchF.tr (r : RchF f a x d) {e : Int} (q : RchF f x y e) : RchF f a y (d + e) := by
 induction q with
 | start hs => rw [hs, Int.add_zero]; exact r
 | step _ hy ih => rw [← Int.add_assoc]; exact .step ih hy
theorem DstF.pred (h : DstF f a x d) : (x = a ∧ d = 0) ∨ ∃ p e, DstF f a p e ∧ x ∈ f.adj p ∧ d = e + f.kost x := by
 obtain ⟨r, hm⟩ := h
 cases r with
 | start hs => exact .inl ⟨hs, rfl⟩
 | @step p _ e hp hy =>
  obtain ⟨e', he⟩ := Gra.Rch.isD (Fld.okZ f) hp
  have h1 := he.2 _ hp
  have h2 := hm _ (.step he.1 hy)
  have : e = e' := by omega
  subst this
  exact .inr ⟨p, e, he, hy, rfl⟩
theorem DstF.chain (hf : f.chk = 0) (ha : f.ground a = true) : ∀ (n : Nat) (x : Cel) (d : Int), DstF f a x d → d.toNat = n → ∃ l : List Cel, l.Nodup ∧ (∀ y ∈ l, f.isIn y = true ∧ ∃ e, DstF f a y e ∧ e ≤ d) ∧ d + 3 ≤ 3 * (l.length : Int) := by
 intro n
 induction n using Nat.strongRecOn with
 | ind n ih =>
  intro x d h hn
  have hx := Fld.ground_in (RchF.ground ha h.1)
  rcases h.pred with ⟨h1, h2⟩ | ⟨p, e, h1, h2, h3⟩
  ·refine ⟨[x], by simp, fun y hy => ?_, by rw [h2]; simp⟩
   rw [List.mem_singleton.1 hy]; exact ⟨hx, d, h, Int.le_refl _⟩
  ·have hk := f.kost_bd (c := x)
   have he := RchF.nn h1.1
   obtain ⟨l, l1, l2, l3⟩ := ih e.toNat (by omega) p e h1 rfl
   refine ⟨x :: l, List.nodup_cons.2 ⟨fun hm => ?_, l1⟩, fun y hy => ?_, by rw [List.length_cons]; omega⟩
   ·obtain ⟨_, e', h4, h5⟩ := l2 x hm
    have := h4.uniq h; omega
   ·rcases List.mem_cons.1 hy with rfl | hy
    ·exact ⟨hx, d, h, Int.le_refl _⟩
    ·obtain ⟨h4, e', h5, h6⟩ := l2 y hy
     exact ⟨h4, e', h5, by omega⟩
theorem DstF.bd (hf : f.chk = 0) (ha : f.ground a = true) (h : DstF f a x d) : d + 3 ≤ 3 * (f.places.length : Int) := by
 obtain ⟨l, l1, l2, l3⟩ := h.chain hf ha _ x d rfl
 have := cells_le hf l1 fun y hy => (l2 y hy).1
 omega
def cellAt (f : Fld) (i : Nat) : Cel := ⟨(i : Int) % f.wide, (i : Int) / f.wide⟩
theorem cellAt_at (hf : f.chk = 0) (hc : f.isIn c = true) : cellAt f (f.at_ c) = c := by
 obtain ⟨_, _, a2, a3, a4, a5⟩ := Fld.idx hf hc
 have h := (Fld.at_lt hf hc).2
 unfold cellAt
 rw [h]
 have e1 : (c.y * f.wide + c.x) % f.wide = c.x := by rw [Int.add_comm, Int.add_mul_emod_self_right, Int.emod_eq_of_lt a2 a3]
 have e2 : (c.y * f.wide + c.x) / f.wide = c.y := by rw [Int.add_comm, Int.add_mul_ediv_right _ _ (by omega), Int.ediv_eq_zero_of_lt a2 a3, Int.zero_add]
 rw [e1, e2]
theorem fr_mk (hf : f.chk = 0) {g : Cel → Int} (hg : ∀ c, f.isIn c = false → g c = -1) : f.fr ((List.range f.places.length).map fun i => g (cellAt f i)) c = g c := by
 cases hc : f.isIn c with
 | false => rw [Fld.fr_out hc, hg c hc]
 | true =>
  rw [Fld.fr_in hc, List.getD_eq_getElem?_getD, List.getElem?_map, List.getElem?_range (Fld.at_lt hf hc).1]
  show g (cellAt f (f.at_ c)) = g c
  rw [cellAt_at hf hc]
theorem pend_ex (hf : f.chk = 0) (ha : f.ground a = true) (b : Cel) : ∃ far, PEnd f a b far := by
 let Q : Cel → Int → Prop := fun c d => DstF f a c d ∧ ∀ D, DstF f a b D → d + Fld.est b c ≤ D
 let g : Cel → Int := fun c => @dite _ (∃ d, Q c d) (Classical.propDecidable _) (fun h => h.choose) fun _ => -1
 have gp : ∀ c d, Q c d → g c = d := fun c d h => by
  have hex : ∃ d, Q c d := ⟨d, h⟩
  show @dite _ (∃ d, Q c d) (Classical.propDecidable _) (fun h => h.choose) (fun _ => -1) = d
  rw [dif_pos hex]
  exact hex.choose_spec.1.uniq h.1
 have gn : ∀ c, (¬ ∃ d, Q c d) → g c = -1 := fun c h => by
  show @dite _ (∃ d, Q c d) (Classical.propDecidable _) (fun h => h.choose) (fun _ => -1) = -1
  rw [dif_neg h]
 have gi : ∀ c, 0 ≤ g c → Q c (g c) := fun c h => by
  by_cases hex : ∃ d, Q c d
  ·obtain ⟨d, hd⟩ := hex
   rw [gp c d hd]; exact hd
  ·rw [gn c hex] at h; omega
 have go : ∀ c, f.isIn c = false → g c = -1 := fun c hc => gn c fun ⟨d, hd⟩ => by
  have := Fld.ground_in (RchF.ground ha hd.1.1); rw [hc] at this; cases this
 have hfr : ∀ c, f.fr ((List.range f.places.length).map fun i => g (cellAt f i)) c = g c := fun c => fr_mk hf go
 refine ⟨(List.range f.places.length).map fun i => g (cellAt f i), by rw [List.length_map, List.length_range], ⟨fun c h => ?_, fun c h => ?_, fun c d hd hle => ?_, fun c h => ?_⟩, fun c => ?_, fun c h => ?_⟩
 ·rw [hfr c] at h ⊢
  by_cases hex : ∃ d, Q c d
  ·obtain ⟨d, hd⟩ := hex
   rw [gp c d hd] at h
   have := RchF.nn hd.1.1; omega
  ·exact gn c hex
 ·rw [hfr c] at h ⊢; exact gi c h
 ·rw [hfr c]; exact gp c d ⟨hd, hle⟩
 ·rw [hfr c] at h ⊢
  have hq := gi c h
  rcases hq.1.pred with h1 | ⟨p, e, h1, h2, h3⟩
  ·exact .inl h1
  ·right
   have he := Fld.est_step b (Fld.mem_adj.1 h2).1
   have hk := f.kost_bd (c := c)
   have hp : g p = e := gp p e ⟨h1, fun D hD => by have := hq.2 D hD; omega⟩
   exact ⟨p, by rw [hfr p, hp]; exact RchF.nn h1.1, h2, by rw [hfr p, hp]; exact h3⟩
 ·rw [hfr c]
  by_cases h : 0 ≤ g c
  ·have := (gi c h).1.bd hf ha; omega
  ·omega
 ·rw [hfr c] at h; exact RchF.ground ha (gi c h).1.1
theorem frF_spec (hf : f.chk = 0) (ha : f.ground a = true) : Gra.Spec f.adj f.kost (Fld.est b) (fun s => s = a) b (frF f a b) := by
 obtain ⟨far, h⟩ := pend_ex hf ha b
 rw [← h.frE]; exact h.spec
theorem frF_dst (hf : f.chk = 0) (ha : f.ground a = true) (h : 0 ≤ frF f a b c) : DstF f a c (frF f a b c) := ((frF_spec hf ha).dist c h).1
theorem frF_frs (hf : f.chk = 0) (ha : f.ground a = true) (h : 0 ≤ frF f a b b) : Frs f a (frF f a b) := by
 obtain ⟨far, hp⟩ := pend_ex hf ha b
 exact Frs.ofF hp h
theorem wayB_in (h : Frs f a fr) : ∀ (n : Nat) (c : Cel), 0 ≤ fr c → (fr c).toNat = n → ∀ x ∈ wayB f fr a c, 0 ≤ fr x ∧ fr x ≤ fr c ∧ f.ground x = true := by
 intro n
 induction n using Nat.strongRecOn with
 | ind n ih =>
  intro c hc hn x hx
  by_cases e : c = a
  ·subst e
   rw [wayB_self h] at hx
   rw [List.mem_singleton.1 hx]; exact ⟨hc, Int.le_refl _, h.gr _ hc⟩
  ·obtain ⟨p1, p2, p3, p4⟩ := h.prev hc e
   have hk := f.kost_bd (c := c)
   rw [wayB_step h hc e] at hx
   rcases List.mem_cons.1 hx with rfl | hx
   ·exact ⟨hc, Int.le_refl _, h.gr _ hc⟩
   ·obtain ⟨q1, q2, q3⟩ := ih _ (by omega) _ p3 rfl x hx
    exact ⟨q1, by omega, q3⟩
theorem wayB_nodup (h : Frs f a fr) : ∀ (n : Nat) (c : Cel), 0 ≤ fr c → (fr c).toNat = n → (wayB f fr a c).Nodup := by
 intro n
 induction n using Nat.strongRecOn with
 | ind n ih =>
  intro c hc hn
  by_cases e : c = a
  ·subst e; rw [wayB_self h]; simp
  ·obtain ⟨p1, p2, p3, p4⟩ := h.prev hc e
   have hk := f.kost_bd (c := c)
   rw [wayB_step h hc e, List.nodup_cons]
   refine ⟨fun hm => ?_, ih _ (by omega) _ p3 rfl⟩
   have := wayB_in h _ _ p3 rfl c hm
   omega
theorem find_dat (he : findE f a b = 0) : f.chk = 0 ∧ f.ground a = true ∧ f.ground b = true ∧ 0 ≤ frF f a b b ∧ findK f a b = frF f a b b ∧ findP f a b = (wayB f (frF f a b) a b).reverse := by
 rcases find_cases f a b with ⟨h1, h2⟩ | ⟨h1, h2, h3⟩ | ⟨h1, h2, h3, h4⟩ | ⟨h1, h2, h3, h4 | h4⟩
 ·rw [h2] at he; exact absurd he h1
 ·rw [h3] at he; exact absurd he h2
 ·rw [h4] at he; cases he
 ·rw [h4.2] at he; cases he
 ·refine ⟨h1, h2, h3, h4.1, ?_, ?_⟩
  ·unfold findK; rw [if_pos he]
  ·unfold findP; rw [if_pos he]
theorem findP_once (he : findE f a b = 0) : (findP f a b).Nodup ∧ (findP f a b).length ≤ f.places.length ∧ ∀ x ∈ findP f a b, f.ground x = true := by
 obtain ⟨hf, ha, hb, h0, _, hp⟩ := find_dat he
 have hF := frF_frs hf ha h0
 have hn := wayB_nodup hF _ b h0 rfl
 have hi := wayB_in hF _ b h0 rfl
 rw [hp]
 refine ⟨(List.reverse_perm _).nodup_iff.2 hn, ?_, fun x hx => (hi x (List.mem_reverse.1 hx)).2.2⟩
 rw [List.length_reverse]
 exact cells_le hf hn fun x hx => Fld.ground_in (hi x hx).2.2
end
end
section
open Go.RowKit
abbrev RchS (f : Fld) (S : List Cel) : Cel → Int → Prop := Gra.Rch f.adj f.kost (fun s => s ∈ S)
abbrev DstS (f : Fld) (S : List Cel) : Cel → Int → Prop := Gra.IsD f.adj f.kost (fun s => s ∈ S)
structure FEnd (f : Fld) (S : List Cel) (far : List Int) : Prop where
 len : far.length = f.places.length
 neg : ∀ c, f.fr far c < 0 → f.fr far c = -1
 dist : ∀ c, 0 ≤ f.fr far c → DstS f S c (f.fr far c)
 all : ∀ c d, RchS f S c d → 0 ≤ f.fr far c
 gr : ∀ c, 0 ≤ f.fr far c → f.ground c = true
 bd : ∀ c, f.fr far c ≤ 3 * (f.places.length : Int)
section
variable {f : Fld} {S T : List Cel} {A B C : List Int} {a b c x y : Cel} {d e D : Int}
theorem FEnd.le (h : FEnd f S A) (r : RchS f S c d) : 0 ≤ f.fr A c ∧ f.fr A c ≤ d := by
 have h0 := h.all c d r
 exact ⟨h0, (h.dist c h0).2 d r⟩
theorem FEnd.eq (h : FEnd f S A) (r : DstS f S c d) : f.fr A c = d := by
 obtain ⟨h1, h2⟩ := h.le r.1
 exact Int.le_antisymm h2 (r.2 _ (h.dist c h1).1)
theorem RchS.mono (hs : ∀ s ∈ S, s ∈ T) (r : RchS f S c d) : RchS f T c d := Gra.Rch.sub hs r
theorem RchS.split (r : RchS f (S ++ T) c d) : RchS f S c d ∨ RchS f T c d := by
 induction r with
 | start hs => exact (List.mem_append.1 hs).imp (fun h => .start h) (fun h => .start h)
 | step _ hx ih => exact ih.imp (fun h => .step h hx) (fun h => .step h hx)
theorem FEnd.more (h : FEnd f S A) (k : FEnd f T B) (m : FEnd f (T ++ S) C) (c : Cel) :
  f.fr C c = if min (f.fr A c) (f.fr B c) < 0 then max (f.fr A c) (f.fr B c) else min (f.fr A c) (f.fr B c) := by
 have key : ∀ d, RchS f (T ++ S) c d → (0 ≤ f.fr B c ∧ f.fr B c ≤ d) ∨ (0 ≤ f.fr A c ∧ f.fr A c ≤ d) := fun d r => (RchS.split r).imp k.le h.le
 have hA : 0 ≤ f.fr A c → 0 ≤ f.fr C c ∧ f.fr C c ≤ f.fr A c := fun h0 => m.le (RchS.mono (fun s hs => List.mem_append.2 (.inr hs)) (h.dist c h0).1)
 have hB : 0 ≤ f.fr B c → 0 ≤ f.fr C c ∧ f.fr C c ≤ f.fr B c := fun h0 => m.le (RchS.mono (fun s hs => List.mem_append.2 (.inl hs)) (k.dist c h0).1)
 have hC : 0 ≤ f.fr C c → (0 ≤ f.fr B c ∧ f.fr B c ≤ f.fr C c) ∨ (0 ≤ f.fr A c ∧ f.fr A c ≤ f.fr C c) := fun h0 => key _ (m.dist c h0).1
 have nA := h.neg c
 have nB := k.neg c
 have nC := m.neg c
 split <;> omega
theorem rch_one (r : RchS f [a] c d) : RchF f a c d := Gra.Rch.sub (fun s hs => by simpa using hs) r
theorem rch_one' (r : RchF f a c d) : RchS f [a] c d := Gra.Rch.sub (fun s hs => by simpa using hs) r
theorem FEnd.zero (h : FEnd f S A) : f.fr A c = 0 ↔ c ∈ S := by
 constructor
 ·intro e
  have hd := (h.dist c (by omega)).1
  rw [e] at hd
  generalize hz : (0 : Int) = z at hd
  cases hd with
  | start hs => exact hs
  | step hp hx =>
   have h1 := Gra.Rch.nn (Fld.okZ f) hp
   have h2 := f.kost_bd (c := c)
   omega
 ·intro hs
  have := h.le (.start hs : RchS f S c 0)
  omega
end
end
section
open Go.RowKit
section
variable {f : Fld} {a b c d : Cel} {fr : Cel → Int} {L : List Cel} {k : Nat}
def Chain (f : Fld) (fr : Cel → Int) : List Cel → Prop
 | [] => True
 | [_] => True
 | x :: y :: r => (x ∈ sidesC y ∧ f.ground x = true ∧ fr x = fr y + f.kost x) ∧ Chain f fr (y :: r)
theorem chain_way (h : Frs f a fr) : ∀ (n : Nat) (c : Cel), 0 ≤ fr c → (fr c).toNat = n → Chain f fr (wayB f fr a c) ∧ (wayB f fr a c).head? = some c ∧ (wayB f fr a c).getLast? = some a := by
 intro n
 induction n using Nat.strongRecOn with
 | ind n ih =>
  intro c hc hn
  by_cases e : c = a
  ·subst e; rw [wayB_self h]; exact ⟨trivial, rfl, rfl⟩
  ·obtain ⟨p1, p2, p3, p4⟩ := h.prev hc e
   have hk := f.kost_bd (c := c)
   obtain ⟨q1, q2, q3⟩ := ih _ (by omega) _ p3 rfl
   rw [wayB_step h hc e]
   cases hw : wayB f fr a (prevF f fr c) with
   | nil => rw [hw] at q2; cases q2
   | cons y r =>
    rw [hw] at q1 q2 q3
    have : y = prevF f fr c := by simpa using q2
    subst this
    exact ⟨⟨⟨Fld.sides_symm p1, h.gr c hc, by omega⟩, q1⟩, rfl, by rw [List.getLast?_cons_cons]; exact q3⟩
theorem chain_at : ∀ {L : List Cel}, Chain f fr L → ∀ i, i + 1 < L.length → L.getD i default ∈ sidesC (L.getD (i + 1) default) ∧ f.ground (L.getD i default) = true ∧ fr (L.getD i default) = fr (L.getD (i + 1) default) + f.kost (L.getD i default)
 | [], _, i, h => by simp at h
 | [_], _, i, h => by simp at h
 | x :: y :: r, hc, 0, _ => hc.1
 | x :: y :: r, hc, i + 1, h => chain_at (L := y :: r) hc.2 i (by simpa using h)
theorem rev_get {i : Nat} (h : i < L.length) : L.reverse.getD i default = L.getD (L.length - 1 - i) default := by
 rw [List.getD_eq_getElem?_getD, List.getElem?_reverse h, ← List.getD_eq_getElem?_getD]
theorem best_dat (he : findE f a b = 0) : ∃ fr : Cel → Int, fr a = 0 ∧ fr b = findK f a b ∧ 0 < (findP f a b).length ∧ (findP f a b).getD 0 default = a ∧ (findP f a b).getD ((findP f a b).length - 1) default = b ∧ (∀ x ∈ findP f a b, 0 ≤ fr x ∧ fr x ≤ findK f a b) ∧
  ∀ i, i + 1 < (findP f a b).length → (findP f a b).getD (i + 1) default ∈ sidesC ((findP f a b).getD i default) ∧ f.ground ((findP f a b).getD (i + 1) default) = true ∧ fr ((findP f a b).getD (i + 1) default) = fr ((findP f a b).getD i default) + f.kost ((findP f a b).getD (i + 1) default) := by
 obtain ⟨hf, ha, hb, h0, hk, hp⟩ := find_dat he
 have hF := frF_frs hf ha h0
 obtain ⟨q1, q2, q3⟩ := chain_way hF _ b h0 rfl
 have hin := wayB_in hF _ b h0 rfl
 generalize hW : wayB f (frF f a b) a b = W at *
 have hl : 0 < W.length := by
  cases W with
  | nil => cases q2
  | cons => simp
 have e0 : W.getD 0 default = b := by
  cases W with
  | nil => cases q2
  | cons x r => simpa using q2
 have e1 : W.getD (W.length - 1) default = a := by
  rw [List.getLast?_eq_getElem?] at q3
  rw [List.getD_eq_getElem?_getD, q3]; rfl
 rw [hp, List.length_reverse]
 refine ⟨frF f a b, hF.zero, hk.symm, hl, by rw [rev_get hl, Nat.sub_zero]; exact e1, by rw [rev_get (by omega), Nat.sub_self]; exact e0, fun x hx => ?_, fun i hi => ?_⟩
 ·rw [hk]
  have := hin x (List.mem_reverse.1 hx)
  exact ⟨this.1, this.2.1⟩
 ·have := chain_at q1 (W.length - 1 - (i + 1)) (by omega)
  rw [rev_get (by omega), rev_get (by omega), show W.length - 1 - i = W.length - 1 - (i + 1) + 1 by omega]
  exact this
theorem sq_one (h : d ∈ sidesC c) : (d.x - c.x) * (d.x - c.x) + (d.y - c.y) * (d.y - c.y) = 1 ∧ 0 ≤ (d.x - c.x) * (d.x - c.x) ∧ 0 ≤ (d.y - c.y) * (d.y - c.y) := by
 obtain ⟨x, y⟩ := c
 rw [Fld.mem_sides] at h
 rcases h with rfl | rfl | rfl | rfl <;> dsimp only
 ·rw [show x - x = 0 by omega, show y - 1 - y = -1 by omega]; decide
 ·rw [show x - 1 - x = -1 by omega, show y - y = 0 by omega]; decide
 ·rw [show x + 1 - x = 1 by omega, show y - y = 0 by omega]; decide
 ·rw [show x - x = 0 by omega, show y + 1 - y = 1 by omega]; decide
theorem best_far {far : List Int} (he : findE f a b = 0) (fe : FEnd f [a] far) : f.fr far b = findK f a b := by
 obtain ⟨hf, ha, hb, h0, hk, _⟩ := find_dat he
 have hd := frF_dst hf ha h0
 rw [hk]
 exact fe.eq ⟨rch_one' hd.1, fun d' r => hd.2 d' (rch_one r)⟩
end
end
section
open Go.RowKit
theorem Fld9_el_S_int : ElT Try.prog repI 22 3 8 := ElT.mk_ (z := .int .i64 0) (k := 1) Try.underlying22 info_int rfl rfl (by decide) (fun j u h => raw0I j u h)
def besC (f : Fld) (c : Cel) : List Cel := (sidesC c).filter f.isIn
def besI (f : Fld) (c : Cel) : List Int := (besC f c).map fun d => d.y * f.wide + d.x
theorem in_iff {f : Fld} {c : Cel} : f.isIn c = true ↔ 0 ≤ c.x ∧ c.x < f.wide ∧ 0 ≤ c.y ∧ c.y < f.high := by
 unfold Fld.isIn inB; simp only [Bool.and_eq_true, decide_eq_true_eq]; omega
theorem bes_eq {f : Fld} {c : Cel} (hc : f.isIn c = true) : besI f c = (if 0 < c.y then [(c.y * f.wide + c.x) - f.wide] else []) ++ ((if 0 < c.x then [(c.y * f.wide + c.x) - 1] else []) ++ ((if c.x < f.wide - 1 then [(c.y * f.wide + c.x) + 1] else []) ++ (if c.y < f.high - 1 then [(c.y * f.wide + c.x) + f.wide] else []))) := by
 obtain ⟨a1, a2, a3, a4⟩ := in_iff.1 hc
 have g : ∀ (d : Cel) (v : Int) (b : Prop) [Decidable b], (f.isIn d = true ↔ b) → d.y * f.wide + d.x = v → ∀ r : List Cel, ((d :: r).filter f.isIn).map (fun d => d.y * f.wide + d.x) = (if b then [v] else []) ++ (r.filter f.isIn).map fun d => d.y * f.wide + d.x := by
  intro d v b _ hb hv r
  rw [List.filter_cons]
  by_cases h : b
  ·rw [if_pos (hb.2 h), if_pos h, List.map_cons, hv]; rfl
  ·have : ¬ f.isIn d = true := fun e => h (hb.1 e)
   rw [if_neg this, if_neg h]; rfl
 unfold besI besC sidesC
 rw [g ⟨c.x, c.y - 1⟩ ((c.y * f.wide + c.x) - f.wide) (0 < c.y) (by rw [in_iff]; dsimp only; omega) (by dsimp only; rw [Int.sub_mul]; omega),
  g ⟨c.x - 1, c.y⟩ ((c.y * f.wide + c.x) - 1) (0 < c.x) (by rw [in_iff]; dsimp only; omega) (by dsimp only; omega),
  g ⟨c.x + 1, c.y⟩ ((c.y * f.wide + c.x) + 1) (c.x < f.wide - 1) (by rw [in_iff]; dsimp only; omega) (by dsimp only; omega),
  g ⟨c.x, c.y + 1⟩ ((c.y * f.wide + c.x) + f.wide) (c.y < f.high - 1) (by rw [in_iff]; dsimp only; omega) (by dsimp only; rw [Int.add_mul]; omega)]
 simp
theorem idx_xy {f : Fld} {c : Cel} (hc : f.isIn c = true) : (c.y * f.wide + c.x) % f.wide = c.x ∧ (c.y * f.wide + c.x) / f.wide = c.y := by
 obtain ⟨a1, a2, a3, a4⟩ := in_iff.1 hc
 constructor
 ·rw [Int.add_comm, Int.add_mul_emod_self_right, Int.emod_eq_of_lt a1 a2]
 ·rw [Int.add_comm, Int.add_mul_ediv_right _ _ (by omega), Int.ediv_eq_zero_of_lt a1 a2]; omega
theorem beside_any (f : Fld) (c : Cel) (p : Int) (P : Option Addr) (pc : Nat) (w : World) (hf : f.chk = 0) (hin : f.isIn c = true) (hp : p = c.y * f.wide + c.x) :
  Calls Try.prog 37 #[.agg #[.int .i64 f.wide, .int .i64 f.high, .slice P f.places.length pc], .int .i64 p] w (fun e w' => ∃ A k, e = .returned (.slice A (besI f c).length k) ∧ repI.SOwn 3 8 w' w.heap.size (Rep.blkOf A) A k (besI f c) ∧ Ext w w') := by
 obtain ⟨hxx, hyy⟩ := idx_xy hin
 rw [← hp] at hxx hyy
 obtain ⟨g1, g2, g3, g4, g5, g6⟩ := Fld.good hf
 obtain ⟨i1, i2, i3, i4, i5, i6⟩ := Fld.idx hf hin
 have hl16 := Fld.len_le hf
 have hp0 : 0 ≤ p := by omega
 have hp1 : p < 1600 := by omega
 refine calls_W (n := 55) Try.func37 rfl rfl rfl ?_
 refine sq <| rg <| bx rfl rfl rfl rfl fun w_1 b_2 x_3 l_4 B_5 => ?_
 have q_6 := x_3.size
 have z_1 := Ext.tr (Ext.rf w) x_3
 have q_7 := B_5.lt
 refine vl (as_ rfl) rfl <| nl <| nT <| sq <| rg <| vl (as_ rfl) rfl <| nl <| nT <| sq <| ?_
 refine rd [(2, 0), (6, 0)] [0, 1, 2, 3, 4, 5, 6, 7, 8, 9] (by kernel_rfl) (by kernel_rfl) ?_
 refine fw rfl rfl (fun _ => mv rfl) rfl <| fw rfl rfl (fun _ => fa eF21 rfl) rfl <| fq rfl rfl (fun _ x => ld rfl ((B_5.later x).one eF1 rfl)) rfl <| fw rfl rfl (fun _ => bre rfl rfl (by omega) (by omega)) rfl <| fw rfl rfl (fun _ => mv rfl) rfl <| fw rfl rfl (fun _ => fa eF21 rfl) rfl <| fq rfl rfl (fun _ x => ld rfl ((B_5.later x).one eF1 rfl)) rfl <| fw rfl rfl (fun _ => bqu rfl rfl (by omega) (by omega) (quI (by omega) (by omega) (by omega))) rfl <| fw rfl rfl (fun _ => as_ rfl) rfl <| fw rfl rfl (fun _ => as_ rfl) rfl <| fn fun w_8 x_9 => ?_
 have q_10 := x_9.size
 have z_8 := Ext.tr z_1 x_9
 refine nT <| sq <| sq <| rg <| vl (mv rfl) rfl <| vl (bgt rfl rfl) rfl <| nl <| nT <| ?_
 refine clt rfl (fun h_11 => ?_) (fun h_11 => ?_)
 ·refine rg <| vl (mv rfl) rfl <| vl (mv rfl) rfl <| vl (fa eF21 rfl) rfl <| ?_
  have B_5 := B_5.later x_9
  refine vl (ld rfl (B_5.one eF1 rfl)) rfl <| vl (bsu rfl rfl (inI (by omega))) rfl <| bs (e := 3) (cs := [.int .i64 (p - f.wide)]) rfl (fun _ => by kernel_rfl) rfl fun w_12 b_13 x_14 l_15 B_16 => ?_
  have q_17 := x_14.size
  have z_12 := Ext.tr z_8 x_14
  have q_18 := B_16.lt
  have O_19 : repI.SOwn 3 8 w_12 w.heap.size (Rep.blkOf none) none 0 ([] : List Int) := Rep.SOwn.nil _
  refine ap Fld9_el_S_int Rep.flat_bare O_19 (Blk.has1 (R := repI) (by_ := 8) (q := p - f.wide) B_16 ⟨rfl, okI_iff.2 (by omega)⟩ (by decide)) rfl rfl (by simp) (by simp) z_12.size rfl fun w_20 A_21 c_22 m_23 O_24 g_25 n_26 => ?_
  have q_27 := m_23.size
  have z_20 := Ext.mod z_12 m_23 (fun q hq => (O_19.lt q hq).1)
  have u_28 := fun q hq => (O_24.lt q hq).2
  have q_29 := m_23.size
  refine vl (as_ rfl) rfl <| nl <| nT <| sq <| sq <| rg <| vl (mv rfl) rfl <| vl (bgt rfl rfl) rfl <| nl <| nT <| ?_
  refine clt rfl (fun h_30 => ?_) (fun h_30 => ?_)
  ·refine rg <| vl (mv rfl) rfl <| vl (mv rfl) rfl <| vl (bsu rfl rfl (inI (by omega))) rfl <| bs (e := 3) (cs := [.int .i64 (p - 1)]) rfl (fun _ => by kernel_rfl) rfl fun w_31 b_32 x_33 l_34 B_35 => ?_
   have q_36 := x_33.size
   have z_31 := Ext.tr z_20 x_33
   have q_37 := B_35.lt
   have O_24 := O_24.later x_33
   refine ap Fld9_el_S_int Rep.flat_bare O_24 (Blk.has1 (R := repI) (by_ := 8) (q := p - 1) B_35 ⟨rfl, okI_iff.2 (by omega)⟩ (by decide)) rfl rfl (by simp) (by simp) z_31.size rfl fun w_38 A_39 c_40 m_41 O_42 g_43 n_44 => ?_
   have q_45 := m_41.size
   have z_38 := Ext.mod z_31 m_41 (fun q hq => (O_24.lt q hq).1)
   have u_46 := fun q hq => (O_42.lt q hq).2
   have q_47 := m_41.size
   refine vl (as_ rfl) rfl <| nl <| nT <| sq <| sq <| rg <| vl (mv rfl) rfl <| vl (fa eF21 rfl) rfl <| ?_
   have B_5 := B_5.later x_14
   have B_5 := B_5.mod m_23 (by simp [Rep.blkOf])
   have B_5 := B_5.later x_33
   have d_48 : ∀ q ∈ Rep.blkOf A_21, q = b_2 → False := fun q hq hb => by (exact Or.elim (g_25 q hq) (fun k_49 => by (simp [Rep.blkOf] at k_49)) (fun k_49 => by omega))
   have B_5 := B_5.mod m_41 (fun hq => d_48 _ hq rfl)
   refine vl (ld rfl (B_5.one eF1 rfl)) rfl <| vl (bsu rfl rfl (inI (by omega))) rfl <| vl (blt rfl rfl) rfl <| nl <| nT <| ?_
   refine clt rfl (fun h_50 => ?_) (fun h_50 => ?_)
   ·refine rg <| vl (mv rfl) rfl <| vl (mv rfl) rfl <| vl (bad rfl rfl (inI (by omega))) rfl <| bs (e := 3) (cs := [.int .i64 (p + 1)]) rfl (fun _ => by kernel_rfl) rfl fun w_51 b_52 x_53 l_54 B_55 => ?_
    have q_56 := x_53.size
    have z_51 := Ext.tr z_38 x_53
    have q_57 := B_55.lt
    have O_42 := O_42.later x_53
    refine ap Fld9_el_S_int Rep.flat_bare O_42 (Blk.has1 (R := repI) (by_ := 8) (q := p + 1) B_55 ⟨rfl, okI_iff.2 (by omega)⟩ (by decide)) rfl rfl (by simp) (by simp) z_51.size rfl fun w_58 A_59 c_60 m_61 O_62 g_63 n_64 => ?_
    have q_65 := m_61.size
    have z_58 := Ext.mod z_51 m_61 (fun q hq => (O_42.lt q hq).1)
    have u_66 := fun q hq => (O_62.lt q hq).2
    have q_67 := m_61.size
    refine vl (as_ rfl) rfl <| nl <| nT <| sq <| sq <| rg <| vl (mv rfl) rfl <| vl (fa eF64 rfl) rfl <| ?_
    have B_5 := B_5.later x_53
    have d_68 : ∀ q ∈ Rep.blkOf A_39, q = b_2 → False := fun q hq hb => by (exact Or.elim (g_43 q hq) (fun k_69 => by (exact d_48 q k_69 hb)) (fun k_69 => by omega))
    have B_5 := B_5.mod m_61 (fun hq => d_68 _ hq rfl)
    refine vl (ld rfl (B_5.one eF1 rfl)) rfl <| vl (bsu rfl rfl (inI (by omega))) rfl <| vl (blt rfl rfl) rfl <| nl <| nT <| ?_
    refine clt rfl (fun h_70 => ?_) (fun h_70 => ?_)
    ·refine rg <| vl (mv rfl) rfl <| vl (mv rfl) rfl <| vl (fa eF21 rfl) rfl <| vl (ld rfl (B_5.one eF1 rfl)) rfl <| vl (bad rfl rfl (inI (by omega))) rfl <| bs (e := 3) (cs := [.int .i64 (p + f.wide)]) rfl (fun _ => by kernel_rfl) rfl fun w_71 b_72 x_73 l_74 B_75 => ?_
     have q_76 := x_73.size
     have z_71 := Ext.tr z_58 x_73
     have q_77 := B_75.lt
     have O_62 := O_62.later x_73
     refine ap Fld9_el_S_int Rep.flat_bare O_62 (Blk.has1 (R := repI) (by_ := 8) (q := p + f.wide) B_75 ⟨rfl, okI_iff.2 (by omega)⟩ (by decide)) rfl rfl (by simp) (by simp) z_71.size rfl fun w_78 A_79 c_80 m_81 O_82 g_83 n_84 => ?_
     have q_85 := m_81.size
     have z_78 := Ext.mod z_71 m_81 (fun q hq => (O_62.lt q hq).1)
     have u_86 := fun q hq => (O_82.lt q hq).2
     have q_87 := m_81.size
     refine vl (as_ rfl) rfl <| nl <| nT <| sq <| rg <| vl (mv rfl) rfl <| vl (as_ rfl) rfl <| nl <| nT <| rt <| tR (.tmp rfl .nil) <| ?_
     have hb := bes_eq hin
     rw [← hp] at hb
     have he : besI f c = ([] : List Int) ++ [p - f.wide] ++ [p - 1] ++ [p + 1] ++ [p + f.wide] := by rw [hb]; rw [if_pos (by omega)]; rw [if_pos (by omega)]; rw [if_pos (by omega)]; rw [if_pos (by omega)]; simp
     exact ⟨A_79, c_80, by rw [he]; rfl, by rw [he]; exact O_82, z_78⟩
    ·refine sk <| nT <| sq <| rg <| vl (mv rfl) rfl <| vl (as_ rfl) rfl <| nl <| nT <| rt <| tR (.tmp rfl .nil) <| ?_
     have hb := bes_eq hin
     rw [← hp] at hb
     have he : besI f c = ([] : List Int) ++ [p - f.wide] ++ [p - 1] ++ [p + 1] := by rw [hb]; rw [if_pos (by omega)]; rw [if_pos (by omega)]; rw [if_pos (by omega)]; rw [if_neg (by omega)]; simp
     exact ⟨A_59, c_60, by rw [he]; rfl, by rw [he]; exact O_62, z_58⟩
   ·refine sk <| nT <| sq <| sq <| rg <| vl (mv rfl) rfl <| vl (fa eF64 rfl) rfl <| vl (ld rfl (B_5.one eF1 rfl)) rfl <| vl (bsu rfl rfl (inI (by omega))) rfl <| vl (blt rfl rfl) rfl <| nl <| nT <| ?_
    refine clt rfl (fun h_88 => ?_) (fun h_88 => ?_)
    ·refine rg <| vl (mv rfl) rfl <| vl (mv rfl) rfl <| vl (fa eF21 rfl) rfl <| vl (ld rfl (B_5.one eF1 rfl)) rfl <| vl (bad rfl rfl (inI (by omega))) rfl <| bs (e := 3) (cs := [.int .i64 (p + f.wide)]) rfl (fun _ => by kernel_rfl) rfl fun w_89 b_90 x_91 l_92 B_93 => ?_
     have q_94 := x_91.size
     have z_89 := Ext.tr z_38 x_91
     have q_95 := B_93.lt
     have O_42 := O_42.later x_91
     refine ap Fld9_el_S_int Rep.flat_bare O_42 (Blk.has1 (R := repI) (by_ := 8) (q := p + f.wide) B_93 ⟨rfl, okI_iff.2 (by omega)⟩ (by decide)) rfl rfl (by simp) (by simp) z_89.size rfl fun w_96 A_97 c_98 m_99 O_100 g_101 n_102 => ?_
     have q_103 := m_99.size
     have z_96 := Ext.mod z_89 m_99 (fun q hq => (O_42.lt q hq).1)
     have u_104 := fun q hq => (O_100.lt q hq).2
     have q_105 := m_99.size
     refine vl (as_ rfl) rfl <| nl <| nT <| sq <| rg <| vl (mv rfl) rfl <| vl (as_ rfl) rfl <| nl <| nT <| rt <| tR (.tmp rfl .nil) <| ?_
     have hb := bes_eq hin
     rw [← hp] at hb
     have he : besI f c = ([] : List Int) ++ [p - f.wide] ++ [p - 1] ++ [p + f.wide] := by rw [hb]; rw [if_pos (by omega)]; rw [if_pos (by omega)]; rw [if_neg (by omega)]; rw [if_pos (by omega)]; simp
     exact ⟨A_97, c_98, by rw [he]; rfl, by rw [he]; exact O_100, z_96⟩
    ·refine sk <| nT <| sq <| rg <| vl (mv rfl) rfl <| vl (as_ rfl) rfl <| nl <| nT <| rt <| tR (.tmp rfl .nil) <| ?_
     have hb := bes_eq hin
     rw [← hp] at hb
     have he : besI f c = ([] : List Int) ++ [p - f.wide] ++ [p - 1] := by rw [hb]; rw [if_pos (by omega)]; rw [if_pos (by omega)]; rw [if_neg (by omega)]; rw [if_neg (by omega)]; simp
     exact ⟨A_39, c_40, by rw [he]; rfl, by rw [he]; exact O_42, z_38⟩
  ·refine sk <| nT <| sq <| sq <| rg <| vl (mv rfl) rfl <| vl (fa eF21 rfl) rfl <| ?_
   have B_5 := B_5.later x_14
   have B_5 := B_5.mod m_23 (by simp [Rep.blkOf])
   refine vl (ld rfl (B_5.one eF1 rfl)) rfl <| vl (bsu rfl rfl (inI (by omega))) rfl <| vl (blt rfl rfl) rfl <| nl <| nT <| ?_
   refine clt rfl (fun h_106 => ?_) (fun h_106 => ?_)
   ·refine rg <| vl (mv rfl) rfl <| vl (mv rfl) rfl <| vl (bad rfl rfl (inI (by omega))) rfl <| bs (e := 3) (cs := [.int .i64 (p + 1)]) rfl (fun _ => by kernel_rfl) rfl fun w_107 b_108 x_109 l_110 B_111 => ?_
    have q_112 := x_109.size
    have z_107 := Ext.tr z_20 x_109
    have q_113 := B_111.lt
    have O_24 := O_24.later x_109
    refine ap Fld9_el_S_int Rep.flat_bare O_24 (Blk.has1 (R := repI) (by_ := 8) (q := p + 1) B_111 ⟨rfl, okI_iff.2 (by omega)⟩ (by decide)) rfl rfl (by simp) (by simp) z_107.size rfl fun w_114 A_115 c_116 m_117 O_118 g_119 n_120 => ?_
    have q_121 := m_117.size
    have z_114 := Ext.mod z_107 m_117 (fun q hq => (O_24.lt q hq).1)
    have u_122 := fun q hq => (O_118.lt q hq).2
    have q_123 := m_117.size
    refine vl (as_ rfl) rfl <| nl <| nT <| sq <| sq <| rg <| vl (mv rfl) rfl <| vl (fa eF64 rfl) rfl <| ?_
    have B_5 := B_5.later x_109
    have d_124 : ∀ q ∈ Rep.blkOf A_21, q = b_2 → False := fun q hq hb => by (exact Or.elim (g_25 q hq) (fun k_125 => by (simp [Rep.blkOf] at k_125)) (fun k_125 => by omega))
    have B_5 := B_5.mod m_117 (fun hq => d_124 _ hq rfl)
    refine vl (ld rfl (B_5.one eF1 rfl)) rfl <| vl (bsu rfl rfl (inI (by omega))) rfl <| vl (blt rfl rfl) rfl <| nl <| nT <| ?_
    refine clt rfl (fun h_126 => ?_) (fun h_126 => ?_)
    ·refine rg <| vl (mv rfl) rfl <| vl (mv rfl) rfl <| vl (fa eF21 rfl) rfl <| vl (ld rfl (B_5.one eF1 rfl)) rfl <| vl (bad rfl rfl (inI (by omega))) rfl <| bs (e := 3) (cs := [.int .i64 (p + f.wide)]) rfl (fun _ => by kernel_rfl) rfl fun w_127 b_128 x_129 l_130 B_131 => ?_
     have q_132 := x_129.size
     have z_127 := Ext.tr z_114 x_129
     have q_133 := B_131.lt
     have O_118 := O_118.later x_129
     refine ap Fld9_el_S_int Rep.flat_bare O_118 (Blk.has1 (R := repI) (by_ := 8) (q := p + f.wide) B_131 ⟨rfl, okI_iff.2 (by omega)⟩ (by decide)) rfl rfl (by simp) (by simp) z_127.size rfl fun w_134 A_135 c_136 m_137 O_138 g_139 n_140 => ?_
     have q_141 := m_137.size
     have z_134 := Ext.mod z_127 m_137 (fun q hq => (O_118.lt q hq).1)
     have u_142 := fun q hq => (O_138.lt q hq).2
     have q_143 := m_137.size
     refine vl (as_ rfl) rfl <| nl <| nT <| sq <| rg <| vl (mv rfl) rfl <| vl (as_ rfl) rfl <| nl <| nT <| rt <| tR (.tmp rfl .nil) <| ?_
     have hb := bes_eq hin
     rw [← hp] at hb
     have he : besI f c = ([] : List Int) ++ [p - f.wide] ++ [p + 1] ++ [p + f.wide] := by rw [hb]; rw [if_pos (by omega)]; rw [if_neg (by omega)]; rw [if_pos (by omega)]; rw [if_pos (by omega)]; simp
     exact ⟨A_135, c_136, by rw [he]; rfl, by rw [he]; exact O_138, z_134⟩
    ·refine sk <| nT <| sq <| rg <| vl (mv rfl) rfl <| vl (as_ rfl) rfl <| nl <| nT <| rt <| tR (.tmp rfl .nil) <| ?_
     have hb := bes_eq hin
     rw [← hp] at hb
     have he : besI f c = ([] : List Int) ++ [p - f.wide] ++ [p + 1] := by rw [hb]; rw [if_pos (by omega)]; rw [if_neg (by omega)]; rw [if_pos (by omega)]; rw [if_neg (by omega)]; simp
     exact ⟨A_115, c_116, by rw [he]; rfl, by rw [he]; exact O_118, z_114⟩
   ·refine sk <| nT <| sq <| sq <| rg <| vl (mv rfl) rfl <| vl (fa eF64 rfl) rfl <| vl (ld rfl (B_5.one eF1 rfl)) rfl <| vl (bsu rfl rfl (inI (by omega))) rfl <| vl (blt rfl rfl) rfl <| nl <| nT <| ?_
    refine clt rfl (fun h_144 => ?_) (fun h_144 => ?_)
    ·refine rg <| vl (mv rfl) rfl <| vl (mv rfl) rfl <| vl (fa eF21 rfl) rfl <| vl (ld rfl (B_5.one eF1 rfl)) rfl <| vl (bad rfl rfl (inI (by omega))) rfl <| bs (e := 3) (cs := [.int .i64 (p + f.wide)]) rfl (fun _ => by kernel_rfl) rfl fun w_145 b_146 x_147 l_148 B_149 => ?_
     have q_150 := x_147.size
     have z_145 := Ext.tr z_20 x_147
     have q_151 := B_149.lt
     have O_24 := O_24.later x_147
     refine ap Fld9_el_S_int Rep.flat_bare O_24 (Blk.has1 (R := repI) (by_ := 8) (q := p + f.wide) B_149 ⟨rfl, okI_iff.2 (by omega)⟩ (by decide)) rfl rfl (by simp) (by simp) z_145.size rfl fun w_152 A_153 c_154 m_155 O_156 g_157 n_158 => ?_
     have q_159 := m_155.size
     have z_152 := Ext.mod z_145 m_155 (fun q hq => (O_24.lt q hq).1)
     have u_160 := fun q hq => (O_156.lt q hq).2
     have q_161 := m_155.size
     refine vl (as_ rfl) rfl <| nl <| nT <| sq <| rg <| vl (mv rfl) rfl <| vl (as_ rfl) rfl <| nl <| nT <| rt <| tR (.tmp rfl .nil) <| ?_
     have hb := bes_eq hin
     rw [← hp] at hb
     have he : besI f c = ([] : List Int) ++ [p - f.wide] ++ [p + f.wide] := by rw [hb]; rw [if_pos (by omega)]; rw [if_neg (by omega)]; rw [if_neg (by omega)]; rw [if_pos (by omega)]; simp
     exact ⟨A_153, c_154, by rw [he]; rfl, by rw [he]; exact O_156, z_152⟩
    ·refine sk <| nT <| sq <| rg <| vl (mv rfl) rfl <| vl (as_ rfl) rfl <| nl <| nT <| rt <| tR (.tmp rfl .nil) <| ?_
     have hb := bes_eq hin
     rw [← hp] at hb
     have he : besI f c = ([] : List Int) ++ [p - f.wide] := by rw [hb]; rw [if_pos (by omega)]; rw [if_neg (by omega)]; rw [if_neg (by omega)]; rw [if_neg (by omega)]; simp
     exact ⟨A_21, c_22, by rw [he]; rfl, by rw [he]; exact O_24, z_20⟩
 ·refine sk <| nT <| sq <| sq <| rg <| vl (mv rfl) rfl <| vl (bgt rfl rfl) rfl <| nl <| nT <| ?_
  refine clt rfl (fun h_162 => ?_) (fun h_162 => ?_)
  ·refine rg <| vl (mv rfl) rfl <| vl (mv rfl) rfl <| vl (bsu rfl rfl (inI (by omega))) rfl <| bs (e := 3) (cs := [.int .i64 (p - 1)]) rfl (fun _ => by kernel_rfl) rfl fun w_163 b_164 x_165 l_166 B_167 => ?_
   have q_168 := x_165.size
   have z_163 := Ext.tr z_8 x_165
   have q_169 := B_167.lt
   have O_170 : repI.SOwn 3 8 w_163 w.heap.size (Rep.blkOf none) none 0 ([] : List Int) := Rep.SOwn.nil _
   refine ap Fld9_el_S_int Rep.flat_bare O_170 (Blk.has1 (R := repI) (by_ := 8) (q := p - 1) B_167 ⟨rfl, okI_iff.2 (by omega)⟩ (by decide)) rfl rfl (by simp) (by simp) z_163.size rfl fun w_171 A_172 c_173 m_174 O_175 g_176 n_177 => ?_
   have q_178 := m_174.size
   have z_171 := Ext.mod z_163 m_174 (fun q hq => (O_170.lt q hq).1)
   have u_179 := fun q hq => (O_175.lt q hq).2
   have q_180 := m_174.size
   refine vl (as_ rfl) rfl <| nl <| nT <| sq <| sq <| rg <| vl (mv rfl) rfl <| vl (fa eF21 rfl) rfl <| ?_
   have B_5 := B_5.later (Ext.tr x_9 x_165)
   have B_5 := B_5.mod m_174 (by simp [Rep.blkOf])
   refine vl (ld rfl (B_5.one eF1 rfl)) rfl <| vl (bsu rfl rfl (inI (by omega))) rfl <| vl (blt rfl rfl) rfl <| nl <| nT <| ?_
   refine clt rfl (fun h_181 => ?_) (fun h_181 => ?_)
   ·refine rg <| vl (mv rfl) rfl <| vl (mv rfl) rfl <| vl (bad rfl rfl (inI (by omega))) rfl <| bs (e := 3) (cs := [.int .i64 (p + 1)]) rfl (fun _ => by kernel_rfl) rfl fun w_182 b_183 x_184 l_185 B_186 => ?_
    have q_187 := x_184.size
    have z_182 := Ext.tr z_171 x_184
    have q_188 := B_186.lt
    have O_175 := O_175.later x_184
    refine ap Fld9_el_S_int Rep.flat_bare O_175 (Blk.has1 (R := repI) (by_ := 8) (q := p + 1) B_186 ⟨rfl, okI_iff.2 (by omega)⟩ (by decide)) rfl rfl (by simp) (by simp) z_182.size rfl fun w_189 A_190 c_191 m_192 O_193 g_194 n_195 => ?_
    have q_196 := m_192.size
    have z_189 := Ext.mod z_182 m_192 (fun q hq => (O_175.lt q hq).1)
    have u_197 := fun q hq => (O_193.lt q hq).2
    have q_198 := m_192.size
    refine vl (as_ rfl) rfl <| nl <| nT <| sq <| sq <| rg <| vl (mv rfl) rfl <| vl (fa eF64 rfl) rfl <| ?_
    have B_5 := B_5.later x_184
    have d_199 : ∀ q ∈ Rep.blkOf A_172, q = b_2 → False := fun q hq hb => by (exact Or.elim (g_176 q hq) (fun k_200 => by (simp [Rep.blkOf] at k_200)) (fun k_200 => by omega))
    have B_5 := B_5.mod m_192 (fun hq => d_199 _ hq rfl)
    refine vl (ld rfl (B_5.one eF1 rfl)) rfl <| vl (bsu rfl rfl (inI (by omega))) rfl <| vl (blt rfl rfl) rfl <| nl <| nT <| ?_
    refine clt rfl (fun h_201 => ?_) (fun h_201 => ?_)
    ·refine rg <| vl (mv rfl) rfl <| vl (mv rfl) rfl <| vl (fa eF21 rfl) rfl <| vl (ld rfl (B_5.one eF1 rfl)) rfl <| vl (bad rfl rfl (inI (by omega))) rfl <| bs (e := 3) (cs := [.int .i64 (p + f.wide)]) rfl (fun _ => by kernel_rfl) rfl fun w_202 b_203 x_204 l_205 B_206 => ?_
     have q_207 := x_204.size
     have z_202 := Ext.tr z_189 x_204
     have q_208 := B_206.lt
     have O_193 := O_193.later x_204
     refine ap Fld9_el_S_int Rep.flat_bare O_193 (Blk.has1 (R := repI) (by_ := 8) (q := p + f.wide) B_206 ⟨rfl, okI_iff.2 (by omega)⟩ (by decide)) rfl rfl (by simp) (by simp) z_202.size rfl fun w_209 A_210 c_211 m_212 O_213 g_214 n_215 => ?_
     have q_216 := m_212.size
     have z_209 := Ext.mod z_202 m_212 (fun q hq => (O_193.lt q hq).1)
     have u_217 := fun q hq => (O_213.lt q hq).2
     have q_218 := m_212.size
     refine vl (as_ rfl) rfl <| nl <| nT <| sq <| rg <| vl (mv rfl) rfl <| vl (as_ rfl) rfl <| nl <| nT <| rt <| tR (.tmp rfl .nil) <| ?_
     have hb := bes_eq hin
     rw [← hp] at hb
     have he : besI f c = ([] : List Int) ++ [p - 1] ++ [p + 1] ++ [p + f.wide] := by rw [hb]; rw [if_neg (by omega)]; rw [if_pos (by omega)]; rw [if_pos (by omega)]; rw [if_pos (by omega)]; simp
     exact ⟨A_210, c_211, by rw [he]; rfl, by rw [he]; exact O_213, z_209⟩
    ·refine sk <| nT <| sq <| rg <| vl (mv rfl) rfl <| vl (as_ rfl) rfl <| nl <| nT <| rt <| tR (.tmp rfl .nil) <| ?_
     have hb := bes_eq hin
     rw [← hp] at hb
     have he : besI f c = ([] : List Int) ++ [p - 1] ++ [p + 1] := by rw [hb]; rw [if_neg (by omega)]; rw [if_pos (by omega)]; rw [if_pos (by omega)]; rw [if_neg (by omega)]; simp
     exact ⟨A_190, c_191, by rw [he]; rfl, by rw [he]; exact O_193, z_189⟩
   ·refine sk <| nT <| sq <| sq <| rg <| vl (mv rfl) rfl <| vl (fa eF64 rfl) rfl <| vl (ld rfl (B_5.one eF1 rfl)) rfl <| vl (bsu rfl rfl (inI (by omega))) rfl <| vl (blt rfl rfl) rfl <| nl <| nT <| ?_
    refine clt rfl (fun h_219 => ?_) (fun h_219 => ?_)
    ·refine rg <| vl (mv rfl) rfl <| vl (mv rfl) rfl <| vl (fa eF21 rfl) rfl <| vl (ld rfl (B_5.one eF1 rfl)) rfl <| vl (bad rfl rfl (inI (by omega))) rfl <| bs (e := 3) (cs := [.int .i64 (p + f.wide)]) rfl (fun _ => by kernel_rfl) rfl fun w_220 b_221 x_222 l_223 B_224 => ?_
     have q_225 := x_222.size
     have z_220 := Ext.tr z_171 x_222
     have q_226 := B_224.lt
     have O_175 := O_175.later x_222
     refine ap Fld9_el_S_int Rep.flat_bare O_175 (Blk.has1 (R := repI) (by_ := 8) (q := p + f.wide) B_224 ⟨rfl, okI_iff.2 (by omega)⟩ (by decide)) rfl rfl (by simp) (by simp) z_220.size rfl fun w_227 A_228 c_229 m_230 O_231 g_232 n_233 => ?_
     have q_234 := m_230.size
     have z_227 := Ext.mod z_220 m_230 (fun q hq => (O_175.lt q hq).1)
     have u_235 := fun q hq => (O_231.lt q hq).2
     have q_236 := m_230.size
     refine vl (as_ rfl) rfl <| nl <| nT <| sq <| rg <| vl (mv rfl) rfl <| vl (as_ rfl) rfl <| nl <| nT <| rt <| tR (.tmp rfl .nil) <| ?_
     have hb := bes_eq hin
     rw [← hp] at hb
     have he : besI f c = ([] : List Int) ++ [p - 1] ++ [p + f.wide] := by rw [hb]; rw [if_neg (by omega)]; rw [if_pos (by omega)]; rw [if_neg (by omega)]; rw [if_pos (by omega)]; simp
     exact ⟨A_228, c_229, by rw [he]; rfl, by rw [he]; exact O_231, z_227⟩
    ·refine sk <| nT <| sq <| rg <| vl (mv rfl) rfl <| vl (as_ rfl) rfl <| nl <| nT <| rt <| tR (.tmp rfl .nil) <| ?_
     have hb := bes_eq hin
     rw [← hp] at hb
     have he : besI f c = ([] : List Int) ++ [p - 1] := by rw [hb]; rw [if_neg (by omega)]; rw [if_pos (by omega)]; rw [if_neg (by omega)]; rw [if_neg (by omega)]; simp
     exact ⟨A_172, c_173, by rw [he]; rfl, by rw [he]; exact O_175, z_171⟩
  ·refine sk <| nT <| sq <| sq <| rg <| vl (mv rfl) rfl <| vl (fa eF21 rfl) rfl <| ?_
   have B_5 := B_5.later x_9
   refine vl (ld rfl (B_5.one eF1 rfl)) rfl <| vl (bsu rfl rfl (inI (by omega))) rfl <| vl (blt rfl rfl) rfl <| nl <| nT <| ?_
   refine clt rfl (fun h_237 => ?_) (fun h_237 => ?_)
   ·refine rg <| vl (mv rfl) rfl <| vl (mv rfl) rfl <| vl (bad rfl rfl (inI (by omega))) rfl <| bs (e := 3) (cs := [.int .i64 (p + 1)]) rfl (fun _ => by kernel_rfl) rfl fun w_238 b_239 x_240 l_241 B_242 => ?_
    have q_243 := x_240.size
    have z_238 := Ext.tr z_8 x_240
    have q_244 := B_242.lt
    have O_245 : repI.SOwn 3 8 w_238 w.heap.size (Rep.blkOf none) none 0 ([] : List Int) := Rep.SOwn.nil _
    refine ap Fld9_el_S_int Rep.flat_bare O_245 (Blk.has1 (R := repI) (by_ := 8) (q := p + 1) B_242 ⟨rfl, okI_iff.2 (by omega)⟩ (by decide)) rfl rfl (by simp) (by simp) z_238.size rfl fun w_246 A_247 c_248 m_249 O_250 g_251 n_252 => ?_
    have q_253 := m_249.size
    have z_246 := Ext.mod z_238 m_249 (fun q hq => (O_245.lt q hq).1)
    have u_254 := fun q hq => (O_250.lt q hq).2
    have q_255 := m_249.size
    refine vl (as_ rfl) rfl <| nl <| nT <| sq <| sq <| rg <| vl (mv rfl) rfl <| vl (fa eF64 rfl) rfl <| ?_
    have B_5 := B_5.later x_240
    have B_5 := B_5.mod m_249 (by simp [Rep.blkOf])
    refine vl (ld rfl (B_5.one eF1 rfl)) rfl <| vl (bsu rfl rfl (inI (by omega))) rfl <| vl (blt rfl rfl) rfl <| nl <| nT <| ?_
    refine clt rfl (fun h_256 => ?_) (fun h_256 => ?_)
    ·refine rg <| vl (mv rfl) rfl <| vl (mv rfl) rfl <| vl (fa eF21 rfl) rfl <| vl (ld rfl (B_5.one eF1 rfl)) rfl <| vl (bad rfl rfl (inI (by omega))) rfl <| bs (e := 3) (cs := [.int .i64 (p + f.wide)]) rfl (fun _ => by kernel_rfl) rfl fun w_257 b_258 x_259 l_260 B_261 => ?_
     have q_262 := x_259.size
     have z_257 := Ext.tr z_246 x_259
     have q_263 := B_261.lt
     have O_250 := O_250.later x_259
     refine ap Fld9_el_S_int Rep.flat_bare O_250 (Blk.has1 (R := repI) (by_ := 8) (q := p + f.wide) B_261 ⟨rfl, okI_iff.2 (by omega)⟩ (by decide)) rfl rfl (by simp) (by simp) z_257.size rfl fun w_264 A_265 c_266 m_267 O_268 g_269 n_270 => ?_
     have q_271 := m_267.size
     have z_264 := Ext.mod z_257 m_267 (fun q hq => (O_250.lt q hq).1)
     have u_272 := fun q hq => (O_268.lt q hq).2
     have q_273 := m_267.size
     refine vl (as_ rfl) rfl <| nl <| nT <| sq <| rg <| vl (mv rfl) rfl <| vl (as_ rfl) rfl <| nl <| nT <| rt <| tR (.tmp rfl .nil) <| ?_
     have hb := bes_eq hin
     rw [← hp] at hb
     have he : besI f c = ([] : List Int) ++ [p + 1] ++ [p + f.wide] := by rw [hb]; rw [if_neg (by omega)]; rw [if_neg (by omega)]; rw [if_pos (by omega)]; rw [if_pos (by omega)]; simp
     exact ⟨A_265, c_266, by rw [he]; rfl, by rw [he]; exact O_268, z_264⟩
    ·refine sk <| nT <| sq <| rg <| vl (mv rfl) rfl <| vl (as_ rfl) rfl <| nl <| nT <| rt <| tR (.tmp rfl .nil) <| ?_
     have hb := bes_eq hin
     rw [← hp] at hb
     have he : besI f c = ([] : List Int) ++ [p + 1] := by rw [hb]; rw [if_neg (by omega)]; rw [if_neg (by omega)]; rw [if_pos (by omega)]; rw [if_neg (by omega)]; simp
     exact ⟨A_247, c_248, by rw [he]; rfl, by rw [he]; exact O_250, z_246⟩
   ·refine sk <| nT <| sq <| sq <| rg <| vl (mv rfl) rfl <| vl (fa eF64 rfl) rfl <| vl (ld rfl (B_5.one eF1 rfl)) rfl <| vl (bsu rfl rfl (inI (by omega))) rfl <| vl (blt rfl rfl) rfl <| nl <| nT <| ?_
    refine clt rfl (fun h_274 => ?_) (fun h_274 => ?_)
    ·refine rg <| vl (mv rfl) rfl <| vl (mv rfl) rfl <| vl (fa eF21 rfl) rfl <| vl (ld rfl (B_5.one eF1 rfl)) rfl <| vl (bad rfl rfl (inI (by omega))) rfl <| bs (e := 3) (cs := [.int .i64 (p + f.wide)]) rfl (fun _ => by kernel_rfl) rfl fun w_275 b_276 x_277 l_278 B_279 => ?_
     have q_280 := x_277.size
     have z_275 := Ext.tr z_8 x_277
     have q_281 := B_279.lt
     have O_282 : repI.SOwn 3 8 w_275 w.heap.size (Rep.blkOf none) none 0 ([] : List Int) := Rep.SOwn.nil _
     refine ap Fld9_el_S_int Rep.flat_bare O_282 (Blk.has1 (R := repI) (by_ := 8) (q := p + f.wide) B_279 ⟨rfl, okI_iff.2 (by omega)⟩ (by decide)) rfl rfl (by simp) (by simp) z_275.size rfl fun w_283 A_284 c_285 m_286 O_287 g_288 n_289 => ?_
     have q_290 := m_286.size
     have z_283 := Ext.mod z_275 m_286 (fun q hq => (O_282.lt q hq).1)
     have u_291 := fun q hq => (O_287.lt q hq).2
     have q_292 := m_286.size
     refine vl (as_ rfl) rfl <| nl <| nT <| sq <| rg <| vl (mv rfl) rfl <| vl (as_ rfl) rfl <| nl <| nT <| rt <| tR (.tmp rfl .nil) <| ?_
     have hb := bes_eq hin
     rw [← hp] at hb
     have he : besI f c = ([] : List Int) ++ [p + f.wide] := by rw [hb]; rw [if_neg (by omega)]; rw [if_neg (by omega)]; rw [if_neg (by omega)]; rw [if_pos (by omega)]; simp
     exact ⟨A_284, c_285, by rw [he]; rfl, by rw [he]; exact O_287, z_283⟩
    ·refine sk <| nT <| sq <| rg <| vl (mv rfl) rfl <| vl (as_ rfl) rfl <| nl <| nT <| rt <| tR (.tmp rfl .nil) <| ?_
     have hb := bes_eq hin
     rw [← hp] at hb
     have he : besI f c = ([] : List Int) := by rw [hb]; rw [if_neg (by omega)]; rw [if_neg (by omega)]; rw [if_neg (by omega)]; rw [if_neg (by omega)]; simp
     exact ⟨none, 0, by rw [he]; rfl, by rw [he]; exact Rep.SOwn.nil _, z_8⟩
end
section
open Go.RowKit
structure Itm where
 place : Int
 far : Int
 deriving DecidableEq, Inhabited
namespace Itm
def cells (a : Itm) : List Value := [.int .i64 (a.place), .int .i64 (a.far)]
def ok (a : Itm) : Prop := (Lit.int .i64 a.place).wf = true ∧ (Lit.int .i64 a.far).wf = true
def raw (j : Nat) (u : Value) : Prop := match j with
 | 0 => ∃ n : Int, u = .int .i64 n
 | 1 => ∃ n : Int, u = .int .i64 n
 | _ => True
theorem cells_raw (a : Itm) : ∀ (j : Nat) u, a.cells[j]? = some u → raw j u := by
 intro j u hu
 match j, hu with
 | 0, hu => exact ⟨_, (Option.some.inj hu).symm⟩
 | 1, hu => exact ⟨_, (Option.some.inj hu).symm⟩
 | j + 2, hu => exact trivial
theorem cells_one (a : Itm) : ∀ u ∈ a.cells, u.oneCell' = true := by
 intro u hu
 unfold cells at hu
 simp only [List.mem_cons, List.not_mem_nil, or_false] at hu
 rcases hu with rfl | rfl <;> rfl
def rep : Rep Itm := Rep.flat 2 cells ok raw (fun _ => rfl) cells_one cells_raw
theorem plain : rep.Plain := Rep.flat_plain
def zero : Value := .agg #[.int .i64 0, .int .i64 0]
theorem zero_raw : ∀ (j : Nat) u, zero.cells[j]? = some u → rep.raw j u := by
 intro j u hu
 have hu : (#[(.int .i64 0 : Value), (.int .i64 0 : Value)] : Array Value)[j]? = some u := hu
 match j, hu with
 | 0, hu => exact ⟨_, (Option.some.inj hu).symm⟩
 | 1, hu => exact ⟨_, (Option.some.inj hu).symm⟩
 | j + 2, hu => cases hu
theorem info : (Try.prog.info? 75).map (fun i => (i.zero, i.size, i.bytes)) = some (some zero, 2, 16) := by kernel_rfl
theorem at_ {by_ : Nat} {w : World} {A : Option Addr} {c : Nat} {l : List Itm} (h : rep.SHas by_ w A c l) (h0 : 0 < l.length) :
  ∃ b o, A = some ⟨b, o, none⟩ ∧ ∀ (i : Nat) (a : Itm), l[i]? = some a → w.cell? ⟨b, o + i * 2, none⟩ = some (.int .i64 (a.place)) ∧ w.cell? ⟨b, o + i * 2 + 1, none⟩ = some (.int .i64 (a.far)) := by
 obtain ⟨b, o, e, hc⟩ := h.at_ h0
 refine ⟨b, o, e, fun i a ha => ?_⟩
 obtain ⟨es, ⟨rfl, _⟩, hj⟩ := hc i a ha
 exact ⟨hj 0 _ rfl, hj 1 _ rfl⟩
def sh : Sh := (.cons (.int .i64) (.cons (.int .i64) .nil))
theorem opens (w : World) (cs : List Value) (h : sh.Ok w cs) : ∃ a, rep.has w cs a := by
 obtain ⟨_, _, rfl, _, _, ⟨x0, rfl, k0⟩, ⟨_, _, rfl, _, _, ⟨x1, rfl, k1⟩, rfl⟩⟩ := h
 exact ⟨⟨x0, x1⟩, rfl, k0, k1⟩
end Itm
end
section
open Go.RowKit
section
variable {β : Type} [Inhabited β] {cel : β → Cel} {fa ky : β → Int} {f : Fld} {S : List Cel} {far : List Int} {l : List β} {x0 : Cel} {rest : List Cel}
theorem SI.fend (s : SI cel fa ky f (fun _ => 0) (fun c => c ∈ S) far [] x0 []) : FEnd f S far where
 len := s.len
 neg := s.inv.neg
 dist := s.inv.dist
 all := fun c d r => s.inv.all (Fld.okZ f) r
 gr := s.gr
 bd := fun c => by have := s.bd c; omega
theorem bes_adj (f : Fld) (c : Cel) : (besC f c).filter f.ground = f.adj c := by
 unfold besC Fld.adj
 rw [List.filter_filter]
 congr 1
 funext d
 cases h : f.ground d with
 | true => rw [Fld.ground_in h]; rfl
 | false => rfl
theorem drop_filter {α : Type} [Inhabited α] {p : α → Bool} {L : List α} {j : Nat} (hj : j < L.length) : (L.drop j).filter p = if p (L.getD j default) then L.getD j default :: (L.drop (j + 1)).filter p else (L.drop (j + 1)).filter p := by
 rw [List.drop_eq_getElem_cons hj, List.filter_cons, getD_dd hj]
end
end
end Go.Proofs.Ytmpkaphcpaigdaa
