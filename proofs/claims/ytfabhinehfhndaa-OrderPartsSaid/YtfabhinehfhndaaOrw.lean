/-
  order.Write, Read. (Printed by bin/ordrw.py.)
-/
import Derived.Test.YtfabhinehfhndaaOrds
import Derived.Test.YtfabhinehfhndaaOrwZ
import Derived.Test.YtfabhinehfhndaaSrt0
import Derived.Test.YtfabhinehfhndaaPackA
import Derived.Test.YtfabhinehfhndaaCrcSeal
import Derived.Test.YtfabhinehfhndaaFldW
set_option linter.unusedVariables false
set_option linter.unusedSimpArgs false
namespace Go.Proofs.Ytfabhinehfhndaa
open Go.RowKit

theorem Orw_en_order_all : Enters Try.prog 60 := en Try.func60 (by kernel_rfl) (by kernel_rfl)
theorem Orw_sz_api_Order : Sz Try.prog 92 6 := fun _ => by kernel_rfl
theorem Orw_ag_api_Order : Ag Try.prog 92 true := fun _ => by kernel_rfl
theorem Orw_zv_api_Order : Zv Try.prog 92 (.agg #[.int .i64 0, .int .i64 0, .int .i64 0, .int .i64 0, .int .i64 0, .int .i64 0]) := fun _ => by kernel_rfl
theorem Orw_fd_api_Order_0 : Fd Try.prog 92 0 0 := fun _ _ _ => by kernel_rfl
theorem Orw_ag_int : Ag Try.prog 3 false := fun _ => by kernel_rfl
theorem Orw_fd_api_Order_1 : Fd Try.prog 92 1 1 := fun _ _ _ => by kernel_rfl
theorem Orw_fd_api_Order_2 : Fd Try.prog 92 2 2 := fun _ _ _ => by kernel_rfl
theorem Orw_fd_api_Order_3 : Fd Try.prog 92 3 3 := fun _ _ _ => by kernel_rfl
theorem Orw_fd_api_Cell_0 : Fd Try.prog 90 0 0 := fun _ _ _ => by kernel_rfl
theorem Orw_fd_api_Cell_1 : Fd Try.prog 90 1 1 := fun _ _ _ => by kernel_rfl
theorem Orw_fd_api_Order_4 : Fd Try.prog 92 4 5 := fun _ _ _ => by kernel_rfl
theorem Orw_el_S_int : ElT Try.prog repI 38 3 8 := ElT.mk_ (z := .int .i64 0) (k := 1) Try.underlying38 info_int rfl rfl (by decide) (fun j u h => raw0I j u h)
theorem Orw_en_pack_PutAll : Enters Try.prog 80 := en Try.func80 (by kernel_rfl) (by kernel_rfl)
theorem Orw_en_crc_Seal : Enters Try.prog 81 := en Try.func81 (by kernel_rfl) (by kernel_rfl)
theorem Orw_en_crc_Open : Enters Try.prog 82 := en Try.func82 (by kernel_rfl) (by kernel_rfl)
theorem Orw_en_pack_GetAll : Enters Try.prog 83 := en Try.func83 (by kernel_rfl) (by kernel_rfl)
theorem Orw_zv_S_api_Order : Zv Try.prog 76 (.slice none 0 0) := fun _ => by kernel_rfl
theorem Orw_en_slices_Chunk_S_int_int_ : Enters Try.prog 84 := en Try.func84 (by kernel_rfl) (by kernel_rfl)
theorem Orw_en_slices_Chunk_S_int_int__1 : Enters Try.prog 107 := en Try.func107 (by kernel_rfl) (by kernel_rfl)
theorem Orw_ag_S_api_Order : Ag Try.prog 76 false := fun _ => by kernel_rfl
theorem Orw_sz_int : Sz Try.prog 3 1 := fun _ => by kernel_rfl
theorem Orw_el_S_api_Order : ElT Try.prog Odr.rep 76 92 48 := ElT.mk_ (z := Odr.zero) (k := 6) Try.underlying76 Odr.info rfl rfl (by decide) Odr.zero_raw
theorem Orw_sz_S_api_Order : Sz Try.prog 76 1 := fun _ => by kernel_rfl
def nums (l : List Odr) : List Int := l.flatMap fun o => [o.by_, o.kind, o.who, o.spot.x, o.spot.y, o.what]
theorem nums_len : ∀ l : List Odr, (nums l).length = 6 * l.length
  | [] => rfl
  | o :: l => by unfold nums; rw [List.flatMap_cons, List.length_append, List.length_cons]; have := nums_len l; unfold nums at this; rw [this]; simp; omega
theorem nums_succ {l : List Odr} {k : Nat} (h : k < l.length) : nums (l.take (k + 1)) = nums (l.take k) ++ [(l.getD k default).by_, (l.getD k default).kind, (l.getD k default).who, (l.getD k default).spot.x, (l.getD k default).spot.y, (l.getD k default).what] := by
  unfold nums; rw [take_succ_dd (d := default) h, List.flatMap_append]; simp
def wrT (l : List Odr) : ByteArray := if ordsE l ≠ 0 then bytesS [] else Crc.sealS (Pack.strOf (Pack.putAllL (nums l)))
theorem wrT_no {l : List Odr} (h : ¬ ordsE l = 0) : wrT l = bytesS [] := by unfold wrT; rw [if_pos h]
theorem wrT_ok {l : List Odr} (h : ordsE l = 0) : wrT l = Crc.sealS (Pack.strOf (Pack.putAllL (nums l))) := by unfold wrT; rw [if_neg (by simpa using h)]
theorem Pack.putAll_len (l : List Int) : (Pack.putAllL l).length ≤ 10 + 10 * l.length := by
  unfold Pack.putAllL; rw [List.length_append]
  have := (Pack.putL_len l.length).1
  have := Pack.items_len l
  omega
theorem rdI_of {w : World} {A : Option Addr} {c : Nat} {l : List Int} (h : repI.SHas 8 w A c l) : Rd w 1 A l.length (cellsI l) := by
  obtain ⟨s1, s2, s3, s4, ess, s5, s6⟩ := h
  rw [ess_ints s5] at s6; exact s6
theorem i64_of {w : World} {A : Option Addr} {c : Nat} {l : List Int} (h : repI.SHas 8 w A c l) : I64 l := fun x hx => okI_iff.1 (repI_ok h x hx)
theorem putAll_o (l : List Int) (A : Option Addr) (c : Nat) (w : World) (hn : l.length ≤ 1000) (h : repI.SHas 8 w A c l) : Calls Try.prog 80 #[.slice A l.length c] w fun e w' => e = .returned (.tuple #[.string (Pack.strOf (Pack.putAllL l)), .int .i64 0]) ∧ Ext w w' :=
  Pack.putAll_any A l.length c l rfl hn (i64_of h) w (rdI_of h)
theorem got_len {s : List UInt8} {out : List Int} {j : Int} (h : Pack.GotAll s out j) : out.length ≤ 1000 := by
  obtain ⟨_, h1, h2⟩ := h
  by_cases e : j = 0
  · exact (h1 e).2
  · rw [(h2 e).1]; exact Nat.zero_le _
theorem own_ofI {w : World} {B n c : Nat} {A : Option Addr} {l : List Int} (h : Own w B 3 1 GI (.slice A n c) l.length (cellsI l)) (hl : l.length ≤ 1000) (h64 : I64 l) : n = l.length ∧ repI.SOwn 3 8 w B (Rep.blkOf A) A c l := by
  have hn : n = l.length := by
    rcases h.2 with ⟨h1, h2⟩ | ⟨g, cap, cur, hv, _⟩
    · injection h1 with _ e _; rw [e, h2]
    · injection hv
  subst hn
  refine ⟨rfl, Rep.SOwn.of_plain (ess := l.map fun a => [Value.int .i64 a]) repI_plain (all_ints fun a ha => okI_iff.2 (h64 a ha)) (by omega) ?_⟩
  have hfl : (l.map fun a => [Value.int .i64 a]).flatten = l.map (Value.int .i64) := ess_ints (w := w) (all_ints fun a ha => okI_iff.2 (h64 a ha))
  rw [hfl]; exact h
theorem getAll_o (s : ByteArray) (hs : s.size ≤ 9223372036854775807) (w : World) : Calls Try.prog 83 #[.string s] w (fun e w' => ∃ out k A c, Pack.GotAll s.data.toList out k ∧ e = .returned (.tuple #[.slice A out.length c, .int .i64 k]) ∧ repI.SOwn 3 8 w' w.heap.size (Rep.blkOf A) A c out ∧ Ext w w') := by
  refine (Pack.getAll_any s hs w).mono fun e w' he => ?_
  obtain ⟨out, k, A, n, c, h1, h2, h3, h4⟩ := he
  obtain ⟨rfl, h5⟩ := own_ofI h3 (got_len h1) h1.1
  exact ⟨out, k, A, c, h1, h2, h5, h4⟩
theorem open_size {s : ByteArray} (h : s.size ≤ 140737488351232) : (Crc.openS s).1.size ≤ 9223372036854775807 := by
  rcases Crc.open_back s with ⟨_, h2⟩ | ⟨_, h2⟩
  · have := congrArg ByteArray.size h2
    rw [Crc.sealS_size] at this; omega
  · rw [h2]; decide
def chunkAt (l : List Int) (k : Nat) : List Int := (l.drop (k * 6)).take (k * 6 + 6 - k * 6)
theorem chunk_len {l : List Int} {k : Nat} (h : k * 6 + 6 ≤ l.length) : (chunkAt l k).length = 6 := by unfold chunkAt; rw [List.length_take, List.length_drop]; omega
theorem chunk_ok {l : List Int} (h : ∀ a ∈ l, okI a) (k i : Nat) : okI ((chunkAt l k).getD i 0) := by
  by_cases hi : i < (chunkAt l k).length
  · exact h _ (List.mem_of_mem_drop (List.mem_of_mem_take (mem_dd (d := 0) hi)))
  · rw [List.getD_eq_getElem?_getD, List.getElem?_eq_none (by omega)]; exact okI_iff.2 (by decide)
def ordOf (n : List Int) : Odr := ⟨n.getD 0 0, n.getD 1 0, n.getD 2 0, ⟨n.getD 3 0, n.getD 4 0⟩, n.getD 5 0⟩
def ordsQ (out : List Int) (q : Nat) : List Odr := (List.finRange q).map fun k => ordOf (chunkAt out k.1)
def ordsF (out : List Int) : List Odr := ordsQ out (out.length / 6)
theorem ordsF_q {out : List Int} {q : Nat} (h : out.length = q * 6) : ordsF out = ordsQ out q := by unfold ordsF; rw [show out.length / 6 = q by omega]
def ReadIs (s : ByteArray) (m : List Odr) (k : Int) : Prop :=
  ((Crc.openS s).2 ≠ 0 ∧ m = [] ∧ k = (Crc.openS s).2) ∨ ((Crc.openS s).2 = 0 ∧ ∃ out j, Pack.GotAll (Crc.openS s).1.data.toList out j ∧ ((j ≠ 0 ∧ m = [] ∧ k = j) ∨ (j = 0 ∧ out.length % 6 ≠ 0 ∧ m = [] ∧ k = 4) ∨
    (j = 0 ∧ out.length % 6 = 0 ∧ ((ordsE (ordsF out) ≠ 0 ∧ m = [] ∧ k = ordsE (ordsF out)) ∨ (ordsE (ordsF out) = 0 ∧ m = ordsF out ∧ k = 0)))))
set_option maxRecDepth 100000 in
set_option maxHeartbeats 400000 in
theorem owrite_any (A : Option Addr) (c : Nat) (l : List Odr) (w : World) (hl : Odr.rep.SHas 48 w A c l) :
    Calls Try.prog 63 #[.slice A l.length c] w (fun e w' => e = .returned (.tuple #[.string (wrT l), .int .i64 (ordsE l)]) ∧ Ext w w') := by
  have hll := hl.len_le
  refine calls_W (n := 49) Try.func63 rfl rfl rfl ?_
  refine sq <| rg <| vl (as_ rfl) rfl <| vl (as_ rfl) rfl <| nl <| nT <| sq <| sq <| rg <| vl (mv rfl) rfl <| ca Orw_en_order_all rfl rfl ((oall_any _ _ l _ (hl.keep (Ext.rf w))).mono ?_)
  rintro e w_1 ⟨rfl, x_2⟩
  refine ⟨_, rfl, ?_⟩
  have q_3 := x_2.size
  have z_1 := Ext.tr (Ext.rf w) x_2
  refine vl (as_ rfl) rfl <| nl <| nT <| sq <| rg <| vl (mv rfl) rfl <| vl (bne rfl rfl) rfl <| nl <| nT <| ?_
  refine cne rfl (fun h_4 => ?_) (fun h_4 => ?_)
  · refine sq <| rg <| vl (mv rfl) rfl <| vl (as_ rfl) rfl <| vl (as_ rfl) rfl <| nl <| nT <| rt <| tT <| tR (.tmp rfl (.tmp rfl .nil)) <| ?_
    exact ⟨by rw [wrT_no h_4]; rfl, z_1⟩
  · obtain ⟨hl100, _⟩ := ordsE_zero (by simpa using h_4)
    refine sk <| nT <| sq <| rg <| vl (as_ rfl) rfl <| nl <| nT <| sq <| sq <| rg <| vl (mv rfl) rfl <| vl (ln Try.underlying76 rfl) rfl <| vl (mv rfl) rfl <| nl <| nT <| bk <| ?_
    refine lp (fun mI EI wI => ∃ k : Nat, ∃ An : Option Addr, ∃ cn : Nat, EI = [(2, .string (bytesS [])), (3, .int .i64 0), (5, .slice An ((nums (l.take k)).length) cn), (15, .slice A l.length c), (16, .int .i64 (l.length : Int)), (17, .int .i64 (k : Int))] ∧ mI = l.length - k ∧ Ext w wI ∧ repI.SOwn 3 8 wI w.heap.size (Rep.blkOf An) An cn (nums (l.take k)) ∧ (k ≤ l.length)) _ _ ⟨0, none, 0, rfl, rfl, z_1, (Rep.SOwn.nil _), by omega⟩ (.cons rfl (.cons rfl (.cons rfl (.cons rfl (.cons rfl (.cons (loI rfl (by first | omega | rfl | (simp <;> omega))) .nil)))))) ?_
    rintro m_6 E_7 w_5 ⟨k, An, cn, rfl, rfl, z_5, ON, hk⟩
    have q_8 := z_5.size
    have u_9 := fun q hq => (ON.lt q hq).2
    have hnl := nums_len (l.take k)
    have htk : (l.take k).length = k := by rw [List.length_take]; omega
    refine sq <| rg <| vl (blt rfl rfl) rfl <| nl <| nT <| sq <| ?_
    refine clt rfl (fun h_10 => ?_) (fun h_10 => ?_)
    · have hox := Odr.all_ok hl _ (mem_dd (d := default) (show k < l.length by omega))
      refine sk <| nT <| sq <| bk <| sq <| rg <| vl (iA k Try.underlying76 Orw_sz_api_Order rfl rfl ((hl.keep z_5).adr (Nat.zero_lt_of_lt (show k < _ from (by omega)))) rfl (by omega)) rfl <| vl (ld rfl (Rep.SHas.elt hcO ((hl.keep z_5).adh (Nat.zero_lt_of_lt (show k < _ from (by omega)))) (get_d (l := l) (u := default) (by omega)) Orw_ag_api_Order Orw_sz_api_Order)) rfl <| al rfl Orw_zv_api_Order rfl rfl fun w_11 b_12 x_13 l_14 B_15 => ?_
      have q_16 := x_13.size
      have z_11 := Ext.tr z_5 x_13
      have q_17 := B_15.lt
      refine st (new := [.int .i64 ((l.getD k default).by_), .int .i64 ((l.getD k default).kind), .int .i64 ((l.getD k default).who), .int .i64 ((l.getD k default).spot.x), .int .i64 ((l.getD k default).spot.y), .int .i64 ((l.getD k default).what)]) rfl rfl B_15 rfl Orw_sz_api_Order rfl rfl rfl fun w_18 m_19 B_15 => ?_
      have q_21 := m_19.size
      have z_18 := Ext.mod z_11 m_19 (by simp only [List.mem_singleton, forall_eq]; omega)
      have q_20 := m_19.size
      refine nl <| nT <| rg <| vl (mv rfl) rfl <| vl (fa Orw_fd_api_Order_0 rfl) rfl <| vl (ld rfl (B_15.one Orw_ag_int rfl)) rfl <| vl (fa Orw_fd_api_Order_1 rfl) rfl <| vl (ld rfl (B_15.one Orw_ag_int rfl)) rfl <| vl (fa Orw_fd_api_Order_2 rfl) rfl <| vl (ld rfl (B_15.one Orw_ag_int rfl)) rfl <| vl (fa Orw_fd_api_Order_3 rfl) rfl <| vl (fa Orw_fd_api_Cell_0 rfl) rfl <| vl (ld rfl (B_15.one Orw_ag_int rfl)) rfl <| vl (fa Orw_fd_api_Order_3 rfl) rfl <| vl (fa Orw_fd_api_Cell_1 rfl) rfl <| vl (ld rfl (B_15.one Orw_ag_int rfl)) rfl <| vl (fa Orw_fd_api_Order_4 rfl) rfl <| vl (ld rfl (B_15.one Orw_ag_int rfl)) rfl <| bs (e := 3) (cs := [.int .i64 ((l.getD k default).by_), .int .i64 ((l.getD k default).kind), .int .i64 ((l.getD k default).who), .int .i64 ((l.getD k default).spot.x), .int .i64 ((l.getD k default).spot.y), .int .i64 ((l.getD k default).what)]) rfl (fun _ => by kernel_rfl) rfl fun w_22 b_23 x_24 l_25 B_26 => ?_
      have q_27 := x_24.size
      have z_22 := Ext.tr z_18 x_24
      have q_28 := B_26.lt
      have ON := ON.later x_13
      have ON := ON.mod m_19 (fun q hq h => by have hb := List.mem_singleton.1 h; exfalso; (have := u_9 q hq; omega))
      have ON := ON.later x_24
      refine ap Orw_el_S_int Rep.flat_bare ON (Blk.hasN (R := repI) (by_ := 8) (k := [(l.getD k default).by_, (l.getD k default).kind, (l.getD k default).who, (l.getD k default).spot.x, (l.getD k default).spot.y, (l.getD k default).what]) B_26 [[.int .i64 ((l.getD k default).by_)], [.int .i64 ((l.getD k default).kind)], [.int .i64 ((l.getD k default).who)], [.int .i64 ((l.getD k default).spot.x)], [.int .i64 ((l.getD k default).spot.y)], [.int .i64 ((l.getD k default).what)]] rfl (⟨⟨rfl, (hox.1)⟩, ⟨⟨rfl, (hox.2.1)⟩, ⟨⟨rfl, (hox.2.2.1)⟩, ⟨⟨rfl, (hox.2.2.2.1)⟩, ⟨⟨rfl, (hox.2.2.2.2.1)⟩, ⟨⟨rfl, (hox.2.2.2.2.2)⟩, trivial⟩⟩⟩⟩⟩⟩) (by simp) (by simp)) rfl rfl (by simp only [List.length_cons, List.length_nil]; omega) (by simp only [List.length_cons, List.length_nil]; omega) z_22.size rfl fun w_29 A_30 c_31 m_32 O_33 g_34 n_35 => ?_
      have q_36 := m_32.size
      have z_29 := Ext.mod z_22 m_32 (fun q hq => (ON.lt q hq).1)
      have u_37 := fun q hq => (O_33.lt q hq).2
      have q_38 := m_32.size
      refine vl (as_ rfl) rfl <| nl <| nB <| nT <| rg <| vl (bad rfl rfl (inI (by omega))) rfl <| vl (mv rfl) rfl <| nl <| ?_
      have e1 : nums (l.take (k + 1)) = nums (l.take k) ++ [(l.getD k default).by_, (l.getD k default).kind, (l.getD k default).who, (l.getD k default).spot.x, (l.getD k default).spot.y, (l.getD k default).what] := nums_succ (by omega)
      exact nI _ _ ⟨k + 1, A_30, c_31, rfl, rfl, z_29, (by rw [e1]; exact O_33), by omega⟩ (by omega) (.cons rfl (.cons rfl (.cons (by rw [e1]; rfl) (.cons rfl (.cons rfl (.cons (loI rfl (by first | omega | rfl | (simp <;> omega))) .nil))))))
    · refine xt <| xT <| xK <| xB <| nT <| sq <| rg <| vl (mv rfl) rfl <| ca Orw_en_pack_PutAll rfl rfl ((putAll_o (nums (l.take k)) _ _ _ (by omega) ON.has).mono ?_)
      rintro e w_39 ⟨rfl, x_40⟩
      refine ⟨_, rfl, ?_⟩
      have q_41 := x_40.size
      have z_39 := Ext.tr z_5 x_40
      refine vl (mv rfl) rfl <| vl (ex rfl rfl) rfl <| vl (ex rfl rfl) rfl <| vl (as_ rfl) rfl <| vl (as_ rfl) rfl <| nl <| nT <| sq <| sq <| rg <| vl (mv rfl) rfl <| vl (bne rfl rfl) rfl <| nl <| nT <| cF rfl <| sk <| nT <| sq <| rg <| vl (mv rfl) rfl <| ca Orw_en_crc_Seal rfl rfl ((Crc.seal_any _ (by rw [Pack.strOf_size]; have := Pack.putAll_len (nums (l.take k)); omega) _).mono ?_)
      rintro e w_42 ⟨rfl, x_43⟩
      refine ⟨_, rfl, ?_⟩
      have q_44 := x_43.size
      have z_42 := Ext.tr z_39 x_43
      refine vl (as_ rfl) rfl <| vl (as_ rfl) rfl <| nl <| nT <| rt <| tR (.tmp rfl (.tmp rfl .nil)) <| ?_
      have ek : k = l.length := by omega
      subst ek
      exact ⟨by rw [wrT_ok (by simpa using h_4), show ordsE l = 0 by simpa using h_4, List.take_length]; rfl, z_42⟩
set_option maxRecDepth 100000 in
set_option maxHeartbeats 1000000 in
theorem oread_any (s : ByteArray) (w : World) (hs : s.size ≤ 140737488351232) :
    Calls Try.prog 64 #[.string s] w (fun e w' => ∃ m k A c, ReadIs s m k ∧ e = .returned (.tuple #[.slice A m.length c, .int .i64 k]) ∧ Odr.rep.SOwn 92 48 w' w.heap.size (Rep.blkOf A) A c m ∧ Ext w w') := by
  refine Rd.calls_W (m := 5) (n := 61) Try.func64 rfl rfl rfl ?_
  refine Rd.sq <| Rd.rg <| vl (as_ rfl) rfl <| vl (as_ rfl) rfl <| nl <| Rd.nT <| Rd.sq <| Rd.rg <| vl (mv rfl) rfl <| ca Orw_en_crc_Open rfl rfl ((Crc.open_any s (by omega) _).mono ?_)
  rintro e w_1 ⟨rfl, x_2⟩
  refine ⟨_, rfl, ?_⟩
  have q_3 := x_2.size
  have z_1 := Ext.tr (Ext.rf w) x_2
  refine vl (mv rfl) rfl <| vl (ex rfl rfl) rfl <| vl (ex rfl rfl) rfl <| vl (as_ rfl) rfl <| vl (as_ rfl) rfl <| nl <| Rd.nT <| Rd.sq <| Rd.sq <| Rd.rg <| vl (mv rfl) rfl <| vl (bne rfl rfl) rfl <| nl <| Rd.nT <| ?_
  refine Rd.cne rfl (fun h_4 => ?_) (fun h_4 => ?_)
  · refine Rd.sq <| Rd.rg <| vl (mv rfl) rfl <| vl (as_ rfl) rfl <| vl (as_ rfl) rfl <| nl <| Rd.nT <| Rd.rt <| Rd.tT <| Rd.tR (.tmp rfl (.tmp rfl .nil)) <| ?_
    exact ⟨[], _, none, 0, .inl ⟨by simpa using h_4, rfl, rfl⟩, rfl, Rep.SOwn.nil _, z_1⟩
  · refine Rd.sk <| Rd.nT <| Rd.sq <| Rd.rg <| vl (mv rfl) rfl <| ca Orw_en_pack_GetAll rfl rfl ((getAll_o ((Crc.openS s).1) (open_size (by omega)) _).mono ?_)
    rintro e w_8 ⟨out, j, AG, cG, hGA, rfl, OG, x_9⟩
    refine ⟨_, rfl, ?_⟩
    have q_10 := x_9.size
    have z_8 := Ext.tr z_1 x_9
    have u_6 := fun q hq => (OG.lt q hq).2
    have lo_7 := fun q hq => (OG.lt q hq).1
    have hgl := got_len hGA
    refine vl (mv rfl) rfl <| vl (ex rfl rfl) rfl <| vl (ex rfl rfl) rfl <| vl (as_ rfl) rfl <| vl (as_ rfl) rfl <| nl <| Rd.nT <| Rd.sq <| Rd.sq <| Rd.rg <| vl (mv rfl) rfl <| vl (bne rfl rfl) rfl <| nl <| Rd.nT <| ?_
    refine Rd.cne rfl (fun h_11 => ?_) (fun h_11 => ?_)
    · refine Rd.sq <| Rd.rg <| vl (mv rfl) rfl <| vl (as_ rfl) rfl <| vl (as_ rfl) rfl <| nl <| Rd.nT <| Rd.rt <| Rd.tT <| Rd.tR (.tmp rfl (.tmp rfl .nil)) <| ?_
      exact ⟨[], _, none, 0, .inr ⟨by simpa using h_4, out, j, hGA, .inl ⟨by simpa using h_11, rfl, rfl⟩⟩, rfl, Rep.SOwn.nil _, z_8⟩
    · have hg1000 : out.length ≤ 1000 := hgl
      refine Rd.sk <| Rd.nT <| Rd.sq <| Rd.sq <| Rd.rg <| vl (mv rfl) rfl <| vl (ln Try.underlying38 rfl) rfl <| vl (bre rfl rfl (by omega) (by omega)) rfl <| vl (bne rfl rfl) rfl <| nl <| Rd.nT <| ?_
      refine Rd.cne rfl (fun h_12 => ?_) (fun h_12 => ?_)
      · refine Rd.sq <| Rd.rg <| vl (as_ rfl) rfl <| vl (as_ rfl) rfl <| nl <| Rd.nT <| Rd.rt <| Rd.tT <| Rd.tR (.tmp rfl (.tmp rfl .nil)) <| ?_
        exact ⟨[], _, none, 0, .inr ⟨by simpa using h_4, out, j, hGA, .inr (.inl ⟨by simpa using h_11, by omega, rfl, rfl⟩)⟩, rfl, Rep.SOwn.nil _, z_8⟩
      · obtain ⟨q, hq6⟩ : ∃ q, out.length = q * 6 := ⟨out.length / 6, by omega⟩
        refine Rd.sk <| Rd.nT <| Rd.sq <| Rd.rg <| al rfl Orw_zv_S_api_Order rfl rfl fun w_13 b_14 x_15 l_16 B_17 => ?_
        have q_18 := x_15.size
        have z_13 := Ext.tr z_8 x_15
        have q_19 := B_17.lt
        refine nl <| Rd.nT <| Rd.sq <| Rd.sq <| Rd.rg <| vl (mv rfl) rfl <| ca Orw_en_slices_Chunk_S_int_int_ rfl rfl ((chunk_anyZ _ _ _ 6 _ (by omega)).mono ?_)
        rintro e w_20 ⟨b2, b3, rfl, C2, C3, l2, l3, x_21⟩
        refine ⟨_, rfl, ?_⟩
        have q_22 := x_21.size
        have z_20 := Ext.tr z_13 x_21
        have q2 := C2.lt
        have q3 := C3.lt
        refine nl <| Rd.nT <| Rd.bk <| ?_
        have B_17 := B_17.later x_21
        have OG := OG.later (Ext.tr x_15 x_21)
        refine Rd.rf (enc := (fun k : Fin q => .slice (sA AG (k.1 * 6 + 6) (k.1 * 6) 1) 6 6)) rfl Orw_en_slices_Chunk_S_int_int__1 (chunk_in q 6 out.length cG b2 b3 AG _ (by omega) hq6 OG.has.1 OG.has.2.1 _ C2 C3) (by omega) (by omega) (Ext.rf _) (by decide) rfl rfl (fun pre W => ∃ Ao : Option Addr, ∃ co : Nat, Blk W b_14 [.slice Ao (((pre.map fun k => ordOf (chunkAt out k.1))).length) co] 76 (0, 0) ∧ Odr.rep.SOwn 92 48 W w_20.heap.size (Rep.blkOf Ao) Ao co ((pre.map fun k => ordOf (chunkAt out k.1))) ∧ repI.SOwn 3 8 W w_1.heap.size (Rep.blkOf AG) AG cG (out) ∧ Mod [b_14] w_20 W) (by rintro s_ W1_ W2_ S_ ⟨Ao, co, B5, OO, OG, z_⟩ m_ hS_; exact ⟨Ao, co, B5.mod m_ (fun hq => (hS_ _ hq).2 _ _ _ B5), OO.mod m_ (fun q hq hs => by obtain ⟨_, _, _, hc⟩ := OO.cellsAt q hq; exact (hS_ q hs).2 _ _ _ hc), OG.mod m_ (fun q hq hs => by obtain ⟨_, _, _, hc⟩ := OG.cellsAt q hq; exact (hS_ q hs).2 _ _ _ hc), z_.md m_ (fun q hq => .inr (hS_ q hq).1)⟩) ⟨none, 0, B_17, Rep.SOwn.nil _, OG, Mod.rf _ _⟩ ?_ ?_
        · intro l_ pre xr wB hI_ hlen_
          obtain ⟨Ao, co, B5, OO, OG, zB⟩ := hI_
          have hzb : ∀ q ∈ [b_14], w.heap.size ≤ q := fun q hq => by rw [List.mem_singleton.1 hq]; omega
          have hKF : KF w_20.heap.size wB wB := KF.rf _ _
          have q_23 := zB.size
          have q_24 := B5.lt
          have u_25 := fun q hq => (OO.lt q hq).2
          have lo_26 := fun q hq => (OO.lt q hq).1
          have u_27 := fun q hq => (OG.lt q hq).2
          have lo_28 := fun q hq => (OG.lt q hq).1
          have hx := xr.2
          have hxm : xr.1 * 6 + 6 ≤ q * 6 := by omega
          have hpre : pre.length < q := hlen_
          have hcl := chunk_len (l := out) (k := xr.1) (by omega)
          have hoc := fun i => chunk_ok (repI_ok OG.has) xr.1 i
          have hpl : ((pre.map fun k => ordOf (chunkAt out k.1))).length = pre.length := List.length_map _
          refine Rd.bk <| ?_
          refine Rd.rd [(0, 0), (3, 0), (6, 0), (9, 0), (12, 0), (15, 0), (19, 0), (21, 2), (22, 3), (23, 3)] [0, 1, 2, 3, 4, 5, 6, 7, 8, 9, 10, 11, 12, 13, 14, 15, 16, 17, 18, 19, 20, 21, 22, 23] (by kernel_rfl) (by kernel_rfl) ?_
          refine fq rfl rfl (fun _ x => ld rfl ((B5.later x).one Orw_ag_S_api_Order rfl)) rfl <| fw rfl rfl (fun _ => mv rfl) rfl <| fw rfl rfl (fun _ => iA 0 Try.underlying38 Orw_sz_int rfl rfl ((OG.has.chunk (xr.1 * 6) (xr.1 * 6 + 6) (by omega) (by omega)).adr (Nat.zero_lt_of_lt (show 0 < _ from (by first | (rw [List.length_take, List.length_drop]; omega) | omega)))) rfl (by omega)) rfl <| fq rfl rfl (fun _ x => ld rfl (Rep.SHas.one' hcI (((OG.later x).has.chunk (xr.1 * 6) (xr.1 * 6 + 6) (by omega) (by omega)).adh (Nat.zero_lt_of_lt (show 0 < _ from (by first | (rw [List.length_take, List.length_drop]; omega) | omega)))) (get_d (l := chunkAt out xr.1) (u := 0) (by first | (rw [List.length_take, List.length_drop]; omega) | omega)) rfl Orw_ag_int)) rfl <| fw rfl rfl (fun _ => mv rfl) rfl <| fw rfl rfl (fun _ => iA 1 Try.underlying38 Orw_sz_int rfl rfl ((OG.has.chunk (xr.1 * 6) (xr.1 * 6 + 6) (by omega) (by omega)).adr (Nat.zero_lt_of_lt (show 1 < _ from (by first | (rw [List.length_take, List.length_drop]; omega) | omega)))) rfl (by omega)) rfl <| fq rfl rfl (fun _ x => ld rfl (Rep.SHas.one' hcI (((OG.later x).has.chunk (xr.1 * 6) (xr.1 * 6 + 6) (by omega) (by omega)).adh (Nat.zero_lt_of_lt (show 1 < _ from (by first | (rw [List.length_take, List.length_drop]; omega) | omega)))) (get_d (l := chunkAt out xr.1) (u := 0) (by first | (rw [List.length_take, List.length_drop]; omega) | omega)) rfl Orw_ag_int)) rfl <| fw rfl rfl (fun _ => mv rfl) rfl <| fw rfl rfl (fun _ => iA 2 Try.underlying38 Orw_sz_int rfl rfl ((OG.has.chunk (xr.1 * 6) (xr.1 * 6 + 6) (by omega) (by omega)).adr (Nat.zero_lt_of_lt (show 2 < _ from (by first | (rw [List.length_take, List.length_drop]; omega) | omega)))) rfl (by omega)) rfl <| fq rfl rfl (fun _ x => ld rfl (Rep.SHas.one' hcI (((OG.later x).has.chunk (xr.1 * 6) (xr.1 * 6 + 6) (by omega) (by omega)).adh (Nat.zero_lt_of_lt (show 2 < _ from (by first | (rw [List.length_take, List.length_drop]; omega) | omega)))) (get_d (l := chunkAt out xr.1) (u := 0) (by first | (rw [List.length_take, List.length_drop]; omega) | omega)) rfl Orw_ag_int)) rfl <| fw rfl rfl (fun _ => mv rfl) rfl <| fw rfl rfl (fun _ => iA 3 Try.underlying38 Orw_sz_int rfl rfl ((OG.has.chunk (xr.1 * 6) (xr.1 * 6 + 6) (by omega) (by omega)).adr (Nat.zero_lt_of_lt (show 3 < _ from (by first | (rw [List.length_take, List.length_drop]; omega) | omega)))) rfl (by omega)) rfl <| fq rfl rfl (fun _ x => ld rfl (Rep.SHas.one' hcI (((OG.later x).has.chunk (xr.1 * 6) (xr.1 * 6 + 6) (by omega) (by omega)).adh (Nat.zero_lt_of_lt (show 3 < _ from (by first | (rw [List.length_take, List.length_drop]; omega) | omega)))) (get_d (l := chunkAt out xr.1) (u := 0) (by first | (rw [List.length_take, List.length_drop]; omega) | omega)) rfl Orw_ag_int)) rfl <| fw rfl rfl (fun _ => mv rfl) rfl <| fw rfl rfl (fun _ => iA 4 Try.underlying38 Orw_sz_int rfl rfl ((OG.has.chunk (xr.1 * 6) (xr.1 * 6 + 6) (by omega) (by omega)).adr (Nat.zero_lt_of_lt (show 4 < _ from (by first | (rw [List.length_take, List.length_drop]; omega) | omega)))) rfl (by omega)) rfl <| fq rfl rfl (fun _ x => ld rfl (Rep.SHas.one' hcI (((OG.later x).has.chunk (xr.1 * 6) (xr.1 * 6 + 6) (by omega) (by omega)).adh (Nat.zero_lt_of_lt (show 4 < _ from (by first | (rw [List.length_take, List.length_drop]; omega) | omega)))) (get_d (l := chunkAt out xr.1) (u := 0) (by first | (rw [List.length_take, List.length_drop]; omega) | omega)) rfl Orw_ag_int)) rfl <| fw (v := .agg #[.int .i64 ((chunkAt out xr.1).getD 3 0), .int .i64 ((chunkAt out xr.1).getD 4 0)]) rfl rfl (fun _ => bd rfl (by kernel_rfl)) rfl <| fw rfl rfl (fun _ => mv rfl) rfl <| fw rfl rfl (fun _ => iA 5 Try.underlying38 Orw_sz_int rfl rfl ((OG.has.chunk (xr.1 * 6) (xr.1 * 6 + 6) (by omega) (by omega)).adr (Nat.zero_lt_of_lt (show 5 < _ from (by first | (rw [List.length_take, List.length_drop]; omega) | omega)))) rfl (by omega)) rfl <| fq rfl rfl (fun _ x => ld rfl (Rep.SHas.one' hcI (((OG.later x).has.chunk (xr.1 * 6) (xr.1 * 6 + 6) (by omega) (by omega)).adh (Nat.zero_lt_of_lt (show 5 < _ from (by first | (rw [List.length_take, List.length_drop]; omega) | omega)))) (get_d (l := chunkAt out xr.1) (u := 0) (by first | (rw [List.length_take, List.length_drop]; omega) | omega)) rfl Orw_ag_int)) rfl <| fw (v := .agg #[.int .i64 ((chunkAt out xr.1).getD 0 0), .int .i64 ((chunkAt out xr.1).getD 1 0), .int .i64 ((chunkAt out xr.1).getD 2 0), .int .i64 ((chunkAt out xr.1).getD 3 0), .int .i64 ((chunkAt out xr.1).getD 4 0), .int .i64 ((chunkAt out xr.1).getD 5 0)]) rfl rfl (fun _ => bd rfl (by kernel_rfl)) rfl <| fx rfl rfl rfl fun w_29 x_30 Q hK => bs (e := 92) (cs := [.int .i64 ((chunkAt out xr.1).getD 0 0), .int .i64 ((chunkAt out xr.1).getD 1 0), .int .i64 ((chunkAt out xr.1).getD 2 0), .int .i64 ((chunkAt out xr.1).getD 3 0), .int .i64 ((chunkAt out xr.1).getD 4 0), .int .i64 ((chunkAt out xr.1).getD 5 0)]) rfl (fun _ => by kernel_rfl) rfl fun w_31 b_32 x_33 l_34 B_35 => hK _ _ ⟨Ext.tr x_30 x_33, ?_⟩
          have q_36 := x_30.size
          have z_29 := zB.trans (Mod.of_ext x_30)
          have q_37 := x_33.size
          have z_31 := z_29.trans (Mod.of_ext x_33)
          have q_38 := B_35.lt
          have OO := OO.later (Ext.tr x_30 x_33)
          have pc_41 := OO
          refine fb rfl rfl rfl fun w_39 x_40 Q hK => ap Orw_el_S_api_Order Rep.flat_bare (OO.later x_40) ((Blk.has1 (R := Odr.rep) (by_ := 48) (q := (⟨(chunkAt out xr.1).getD 0 0, (chunkAt out xr.1).getD 1 0, (chunkAt out xr.1).getD 2 0, ⟨(chunkAt out xr.1).getD 3 0, (chunkAt out xr.1).getD 4 0⟩, (chunkAt out xr.1).getD 5 0⟩ : Odr)) B_35 ⟨rfl, ⟨hoc 0, hoc 1, hoc 2, hoc 3, hoc 4, hoc 5⟩⟩ (by decide)).keep x_40) rfl rfl (by simp only [List.length_cons, List.length_nil]; omega) (by simp only [List.length_cons, List.length_nil]; omega) (by have := x_40.size; omega) rfl fun w_42 A_43 c_44 m_45 O_46 g_47 n_48 => hK _ _ ?_
          have q_49 := x_40.size
          have z_39 := z_31.trans (Mod.of_ext x_40)
          have q_50 := m_45.size
          have z_42 := z_39.md m_45 (fun q hq => .inr ((fun q hq => Nat.le_trans (by omega) ((OO.later x_40).lt q hq).1) q hq))
          have u_51 := fun q hq => (O_46.lt q hq).2
          have q_52 := m_45.size
          have B5 := B5.later (Ext.tr x_30 (Ext.tr x_33 x_40))
          have d_56 : ∀ q ∈ Rep.blkOf Ao, q = b_14 → False := fun q hq hb => by (have := lo_26 q hq; omega)
          have B5 := B5.mod m_45 (fun hq => d_56 _ hq rfl)
          have pc_55 := B5
          refine fb rfl rfl rfl fun w_53 x_54 Q hK => st (new := [.slice A_43 (((pre.map fun k => ordOf (chunkAt out k.1)) ++ [(⟨(chunkAt out xr.1).getD 0 0, (chunkAt out xr.1).getD 1 0, (chunkAt out xr.1).getD 2 0, ⟨(chunkAt out xr.1).getD 3 0, (chunkAt out xr.1).getD 4 0⟩, (chunkAt out xr.1).getD 5 0⟩ : Odr)]).length) c_44]) rfl rfl (B5.later x_54) rfl Orw_sz_S_api_Order rfl rfl rfl fun w_57 m_58 B5 => hK _ _ ?_
          have q_60 := x_54.size
          have z_53 := z_42.trans (Mod.of_ext x_54)
          have q_61 := m_58.size
          have z_57 := z_53.md m_58 (fun q hq => .inl hq)
          have q_59 := m_58.size
          refine fn fun w_62 x_63 => ?_
          have q_64 := x_63.size
          have z_62 := z_57.trans (Mod.of_ext x_63)
          refine Rd.nB <| ?_
          have hKF := hKF.later (Ext.tr x_30 (Ext.tr x_33 x_40))
          have hKF := hKF.mod m_45 (fun q hq => (pc_41.later x_40).cellsAt q hq)
          have hKF := hKF.later x_54
          have hKF := hKF.mod m_58 (fun q hq => by rw [List.mem_singleton.1 hq]; exact ⟨_, _, _, (pc_55.later x_54)⟩)
          have hKF := hKF.later x_63
          have B5 := B5.later x_63
          have O_46 := O_46.later x_54
          have O_46 := O_46.mod m_58 (fun q hq h => by have hb := List.mem_singleton.1 h; exfalso; (exact Or.elim (g_47 q hq) (fun k_65 => by (exact d_56 q k_65 hb)) (fun k_65 => by omega)))
          have O_46 := O_46.later x_63
          have OG := OG.later (Ext.tr x_30 (Ext.tr x_33 x_40))
          have OG := OG.mod m_45 (fun q hq h => by exfalso; (have := lo_26 q h; (have := u_27 q hq; have := u_6 q hq; omega)))
          have OG := OG.later x_54
          have OG := OG.mod m_58 (fun q hq h => by have hb := List.mem_singleton.1 h; exfalso; (have := u_27 q hq; have := u_6 q hq; omega))
          have OG := OG.later x_63
          exact fun _ _ => ⟨hKF, Mod.keep22 zB z_62 ⟨by omega, by omega⟩ (by simp only [List.mem_singleton]; omega) (by simp only [List.mem_singleton]; omega), ⟨A_43, c_44, (by rw [List.map_append]; exact B5), (by rw [List.map_append]; exact O_46), OG, z_62⟩⟩
        · intro D xs_ wD hD_ hS_ hI_ hDK
          obtain ⟨Ao, co, B5, OO, OG, zD⟩ := hI_
          have hS2 : xs_ = List.finRange q := hS_
          subst hS2
          have q_66 := zD.size
          have zD2 := Ext.mod z_20 zD (fun q hq => by rw [List.mem_singleton.1 hq]; omega)
          refine Rt.nB <| Rt.nT <| Rt.sq <| Rt.sq <| Rt.rg <| Rt.vl (ld rfl (B5.one Orw_ag_S_api_Order rfl)) rfl <| Rt.ca Orw_en_order_all rfl rfl ((oall_any _ _ (ordsQ out q) _ OO.has).mono ?_)
          rintro e w_67 ⟨rfl, x_68⟩
          refine ⟨_, rfl, ?_⟩
          have q_69 := x_68.size
          have z_67 := Ext.tr zD2 x_68
          refine Rt.vl (as_ rfl) rfl <| Rt.nl <| Rt.nT <| Rt.sq <| Rt.rg <| Rt.vl (mv rfl) rfl <| Rt.vl (bne rfl rfl) rfl <| Rt.nl <| Rt.nT <| ?_
          refine Rt.cne rfl (fun h_70 => ?_) (fun h_70 => ?_)
          · refine Rt.sq <| Rt.rg <| Rt.vl (mv rfl) rfl <| Rt.vl (as_ rfl) rfl <| Rt.vl (as_ rfl) rfl <| Rt.nl <| Rt.nT <| Rt.rt <| Rt.tT <| ?_
            have hDK := hDK.later x_68
            refine Rt.tR hDK (.tmp rfl (.tmp rfl .nil)) <| ?_
            exact ⟨[], _, none, 0, .inr ⟨by simpa using h_4, out, j, hGA, .inr (.inr ⟨by simpa using h_11, by omega, .inl ⟨by rw [ordsF_q hq6]; simpa using h_70, rfl, by rw [ordsF_q hq6]⟩⟩)⟩, rfl, Rep.SOwn.nil _, Ext.mod z_67 hDK.un (fun q hq => by rw [List.mem_singleton.1 hq]; omega)⟩
          · refine Rt.sk <| Rt.nT <| Rt.sq <| Rt.rg <| ?_
            have B5 := B5.later x_68
            refine Rt.vl (ld rfl (B5.one Orw_ag_S_api_Order rfl)) rfl <| Rt.vl (as_ rfl) rfl <| Rt.vl (as_ rfl) rfl <| Rt.nl <| Rt.nT <| Rt.rt <| ?_
            have hDK := hDK.later x_68
            refine Rt.tR hDK (.tmp rfl (.tmp rfl .nil)) <| ?_
            have OO := OO.later x_68
            exact ⟨_, _, Ao, co, .inr ⟨by simpa using h_4, out, j, hGA, .inr (.inr ⟨by simpa using h_11, by omega, .inr ⟨by rw [ordsF_q hq6]; simpa using h_70, (ordsF_q hq6).symm, rfl⟩⟩)⟩, rfl, (OO.down (by omega)).mod hDK.un (fun q1 h1 h2 => by have h3 := List.mem_singleton.1 h2; subst h3; obtain ⟨_, _, _, hc⟩ := OO.cellsAt _ h1; rw [show _ = _ from hDK] at hc; exact nomatch hc), Ext.mod z_67 hDK.un (fun q hq => by rw [List.mem_singleton.1 hq]; omega)⟩
end Go.Proofs.Ytfabhinehfhndaa
