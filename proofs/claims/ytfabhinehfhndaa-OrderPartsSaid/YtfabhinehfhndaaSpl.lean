/-
  order.split.add. (Printed by bin/split.py.)
-/
import Derived.Test.YtfabhinehfhndaaOrds
import Derived.Test.YtfabhinehfhndaaGox
import Derived.Test.YtfabhinehfhndaaBlw
import Derived.Test.YtfabhinehfhndaaDed
set_option linter.unusedVariables false
set_option linter.unusedSimpArgs false
namespace Go.Proofs.Ytfabhinehfhndaa
open Go.RowKit

theorem Spl_fd_api_Order_1 : Fd Try.prog 92 1 1 := fun _ _ _ => by kernel_rfl
theorem Spl_ag_int : Ag Try.prog 3 false := fun _ => by kernel_rfl
theorem Spl_fd_order_split_0 : Fd Try.prog 129 0 0 := fun _ _ _ => by kernel_rfl
theorem Spl_ag_S_api_Blow : Ag Try.prog 83 false := fun _ => by kernel_rfl
theorem Spl_fd_api_Order_2 : Fd Try.prog 92 2 2 := fun _ _ _ => by kernel_rfl
theorem Spl_fd_api_Order_4 : Fd Try.prog 92 4 5 := fun _ _ _ => by kernel_rfl
theorem Spl_el_S_api_Blow : ElT Try.prog Blw.rep 83 95 16 := ElT.mk_ (z := Blw.zero) (k := 2) Try.underlying83 Blw.info rfl rfl (by decide) Blw.zero_raw
theorem Spl_sz_S_api_Blow : Sz Try.prog 83 1 := fun _ => by kernel_rfl
theorem Spl_fd_order_split_1 : Fd Try.prog 129 1 1 := fun _ _ _ => by kernel_rfl
theorem Spl_ag_S_api_Go : Ag Try.prog 84 false := fun _ => by kernel_rfl
theorem Spl_fd_api_Order_3 : Fd Try.prog 92 3 3 := fun _ _ _ => by kernel_rfl
theorem Spl_ag_api_Cell : Ag Try.prog 90 true := fun _ => by kernel_rfl
theorem Spl_sz_api_Cell : Sz Try.prog 90 2 := fun _ => by kernel_rfl
theorem Spl_el_S_api_Go : ElT Try.prog Gox.rep 84 99 24 := ElT.mk_ (z := Gox.zero) (k := 3) Try.underlying84 Gox.info rfl rfl (by decide) Gox.zero_raw
theorem Spl_sz_S_api_Go : Sz Try.prog 84 1 := fun _ => by kernel_rfl
theorem Spl_fd_order_split_2 : Fd Try.prog 129 2 2 := fun _ _ _ => by kernel_rfl
theorem Spl_ag_S_api_Deed : Ag Try.prog 85 false := fun _ => by kernel_rfl
theorem Spl_el_S_api_Deed : ElT Try.prog Ded.rep 85 103 40 := ElT.mk_ (z := Ded.zero) (k := 5) Try.underlying85 Ded.info rfl rfl (by decide) Ded.zero_raw
theorem Spl_sz_S_api_Deed : Sz Try.prog 85 1 := fun _ => by kernel_rfl
theorem Spl_fd_api_Order_0 : Fd Try.prog 92 0 0 := fun _ _ _ => by kernel_rfl
theorem hcGo {w : World} {cs : List Value} {a : Gox} (h : Gox.rep.has w cs a) : cs = a.cells := And.left (show cs = a.cells ∧ a.ok from h)
def spB (o : Odr) : List Blw := if o.kind = 1 then [⟨o.who, o.what⟩] else []
def spG (o : Odr) : List Gox := if o.kind = 2 then [⟨o.who, ⟨o.spot.x, o.spot.y⟩⟩] else []
def spD (o : Odr) : List Ded := if o.kind = 3 then [⟨1, o.who, ⟨o.spot.x, o.spot.y⟩, 0⟩] else if o.kind = 4 then [⟨2, o.who, ⟨0, 0⟩, 0⟩] else if o.kind = 5 then [⟨3, o.by_, ⟨0, 0⟩, o.what⟩] else []
set_option maxRecDepth 100000 in
set_option maxHeartbeats 1000000 in
theorem add_any (o : Odr) (w0 : World) (bq : Nat) (A B C : Option Addr) (a b c : Nat) (qb : List Blw) (qg : List Gox) (qd : List Ded) (w : World) (hx0 : Ext w0 w) (hok : o.ok) (hS : Blk w bq [.slice A qb.length a, .slice B qg.length b, .slice C qd.length c] 129 (0, 0)) (hA : Blw.rep.SOwn 95 16 w w0.heap.size (Rep.blkOf A) A a qb) (hB : Gox.rep.SOwn 99 24 w w0.heap.size (Rep.blkOf B) B b qg) (hC : Ded.rep.SOwn 103 40 w w0.heap.size (Rep.blkOf C) C c qd) (dA : ∀ q ∈ Rep.blkOf A, q = bq → False) (dB : ∀ q ∈ Rep.blkOf B, q = bq → False) (dC : ∀ q ∈ Rep.blkOf C, q = bq → False) (dBA : ∀ q ∈ Rep.blkOf B, q ∈ Rep.blkOf A → False) (dCA : ∀ q ∈ Rep.blkOf C, q ∈ Rep.blkOf A → False) (dCB : ∀ q ∈ Rep.blkOf C, q ∈ Rep.blkOf B → False) (n1 : qb.length ≤ 100) (n2 : qg.length ≤ 100) (n3 : qd.length ≤ 100) :
    Calls Try.prog 62 #[.pointer (some ⟨bq, 0, none⟩), .agg #[.int .i64 o.by_, .int .i64 o.kind, .int .i64 o.who, .int .i64 o.spot.x, .int .i64 o.spot.y, .int .i64 o.what]] w (fun e w' => ∃ A' a' B' b' C' c', e = .returned (.tuple #[]) ∧ Blk w' bq [.slice A' (qb ++ spB o).length a', .slice B' (qg ++ spG o).length b', .slice C' (qd ++ spD o).length c'] 129 (0, 0) ∧ Blw.rep.SOwn 95 16 w' w0.heap.size (Rep.blkOf A') A' a' (qb ++ spB o) ∧ Gox.rep.SOwn 99 24 w' w0.heap.size (Rep.blkOf B') B' b' (qg ++ spG o) ∧ Ded.rep.SOwn 103 40 w' w0.heap.size (Rep.blkOf C') C' c' (qd ++ spD o) ∧ (∀ q ∈ Rep.blkOf A', q = bq → False) ∧ (∀ q ∈ Rep.blkOf B', q = bq → False) ∧ (∀ q ∈ Rep.blkOf C', q = bq → False) ∧ (∀ q ∈ Rep.blkOf B', q ∈ Rep.blkOf A' → False) ∧ (∀ q ∈ Rep.blkOf C', q ∈ Rep.blkOf A' → False) ∧ (∀ q ∈ Rep.blkOf C', q ∈ Rep.blkOf B' → False) ∧ (∀ q ∈ Rep.blkOf A', q ∈ Rep.blkOf A ∨ w.heap.size ≤ q) ∧ (∀ q ∈ Rep.blkOf B', q ∈ Rep.blkOf B ∨ w.heap.size ≤ q) ∧ (∀ q ∈ Rep.blkOf C', q ∈ Rep.blkOf C ∨ w.heap.size ≤ q) ∧ Mod (bq :: (Rep.blkOf A ++ (Rep.blkOf B ++ Rep.blkOf C))) w w') := by
  have hx0s := hx0.size
  have qs := hS.lt
  have uA := fun q hq => (hA.lt q hq).2
  have uB := fun q hq => (hB.lt q hq).2
  have uC := fun q hq => (hC.lt q hq).2
  have lA : ∀ q ∈ Rep.blkOf A, w0.heap.size ≤ q := fun q hq => (hA.lt q hq).1
  have lB : ∀ q ∈ Rep.blkOf B, w0.heap.size ≤ q := fun q hq => (hB.lt q hq).1
  have lC : ∀ q ∈ Rep.blkOf C, w0.heap.size ≤ q := fun q hq => (hC.lt q hq).1
  refine calls_W (n := 84) Try.func62 rfl rfl rfl ?_
  refine sq <| rg <| bx rfl rfl rfl rfl fun w_1 b_2 x_3 l_4 B_5 => ?_
  have q_6 := x_3.size
  have z_1 := (Mod.rf (bq :: (Rep.blkOf A ++ (Rep.blkOf B ++ Rep.blkOf C))) w).trans (Mod.of_ext x_3)
  have q_7 := B_5.lt
  refine nl <| nT <| sq <| rg <| vl (fa Spl_fd_api_Order_1 rfl) rfl <| vl (ld rfl (B_5.one Spl_ag_int rfl)) rfl <| nl <| nT <| bk <| sq <| rg <| vl (beq rfl rfl) rfl <| vl (as_ rfl) rfl <| nl <| nT <| ?_
  refine ceq rfl (fun h_8 => ?_) (fun h_8 => ?_)
  · refine rd [(4, 0), (6, 0), (8, 0), (10, 2), (11, 3), (14, 3)] [0, 1, 2, 3, 4, 5, 6, 7, 8, 9, 10, 11, 12, 13, 14] (by kernel_rfl) (by kernel_rfl) ?_
    refine fw rfl rfl (fun _ => mv rfl) rfl <| fw rfl rfl (fun _ => mv rfl) rfl <| fw rfl rfl (fun _ => nc rfl) rfl <| fw rfl rfl (fun _ => fa Spl_fd_order_split_0 rfl) rfl <| ?_
    have hS := hS.later x_3
    refine fq rfl rfl (fun _ x => ld rfl ((hS.later x).one Spl_ag_S_api_Blow rfl)) rfl <| fw rfl rfl (fun _ => fa Spl_fd_api_Order_2 rfl) rfl <| fq rfl rfl (fun _ x => ld rfl ((B_5.later x).one Spl_ag_int rfl)) rfl <| fw rfl rfl (fun _ => fa Spl_fd_api_Order_4 rfl) rfl <| fq rfl rfl (fun _ x => ld rfl ((B_5.later x).one Spl_ag_int rfl)) rfl <| fw (v := .agg #[.int .i64 o.who, .int .i64 o.what]) rfl rfl (fun _ => bd rfl (by kernel_rfl)) rfl <| fx rfl rfl rfl fun w_9 x_10 Q hK => bs (e := 95) (cs := [.int .i64 o.who, .int .i64 o.what]) rfl (fun _ => by kernel_rfl) rfl fun w_11 b_12 x_13 l_14 B_15 => hK _ _ ⟨Ext.tr x_10 x_13, ?_⟩
    have q_16 := x_10.size
    have z_9 := z_1.trans (Mod.of_ext x_10)
    have q_17 := x_13.size
    have z_11 := z_9.trans (Mod.of_ext x_13)
    have q_18 := B_15.lt
    have hA := hA.later (Ext.tr x_3 (Ext.tr x_10 x_13))
    refine fb rfl rfl rfl fun w_19 x_20 Q hK => ap Spl_el_S_api_Blow Rep.flat_bare (hA.later x_20) ((Blk.has1 (R := Blw.rep) (by_ := 16) (q := (⟨o.who, o.what⟩ : Blw)) B_15 ⟨rfl, (by obtain ⟨o0, o1, o2, o3, o4, o5⟩ := hok; exact ⟨o2, o5⟩)⟩ (by decide)).keep x_20) rfl rfl (by simp only [List.length_cons, List.length_nil]; omega) (by simp only [List.length_cons, List.length_nil]; omega) (by have := x_20.size; omega) rfl fun w_21 A_22 c_23 m_24 O_25 g_26 n_27 => hK _ _ ?_
    have q_28 := x_20.size
    have z_19 := z_11.trans (Mod.of_ext x_20)
    have q_29 := m_24.size
    have z_21 := z_19.md m_24 (fun q hq => .inl (List.mem_cons_of_mem _ (List.mem_append.2 (.inl hq))))
    have u_30 := fun q hq => (O_25.lt q hq).2
    have q_31 := m_24.size
    refine fw rfl rfl (fun _ => nc rfl) rfl <| fw rfl rfl (fun _ => fa Spl_fd_order_split_0 rfl) rfl <| ?_
    have hS := hS.later (Ext.tr x_10 (Ext.tr x_13 x_20))
    have hS := hS.mod m_24 (fun hq => dA _ hq rfl)
    refine fb rfl rfl rfl fun w_32 x_33 Q hK => st (new := [.slice A_22 ((qb ++ [(⟨o.who, o.what⟩ : Blw)]).length) c_23, .slice B qg.length b, .slice C qd.length c]) rfl rfl (hS.later x_33) rfl Spl_sz_S_api_Blow rfl rfl rfl fun w_34 m_35 hS => hK _ _ ?_
    have q_37 := x_33.size
    have z_32 := z_21.trans (Mod.of_ext x_33)
    have q_38 := m_35.size
    have z_34 := z_32.md m_35 (fun q hq => .inl (by rw [List.mem_singleton.1 hq]; exact List.mem_cons_self))
    have q_36 := m_35.size
    refine fn fun w_39 x_40 => ?_
    have q_41 := x_40.size
    have z_39 := z_34.trans (Mod.of_ext x_40)
    refine nB <| ne <| tR .nil <| ?_
    have hS := hS.later x_40
    have O_25 := O_25.later x_33
    have O_25 := O_25.mod m_35 (fun q hq h => by have hb := List.mem_singleton.1 h; exfalso; (exact Or.elim (g_26 q hq) (fun k_42 => by (exact dA q k_42 hb)) (fun k_42 => by omega)))
    have O_25 := O_25.later x_40
    have hB := hB.later (Ext.tr x_3 (Ext.tr x_10 (Ext.tr x_13 x_20)))
    have hB := hB.mod m_24 (fun q hq h => by exfalso; (exact dBA q hq h))
    have hB := hB.later x_33
    have hB := hB.mod m_35 (fun q hq h => by have hb := List.mem_singleton.1 h; exfalso; (exact dB q hq hb))
    have hB := hB.later x_40
    have hC := hC.later (Ext.tr x_3 (Ext.tr x_10 (Ext.tr x_13 x_20)))
    have hC := hC.mod m_24 (fun q hq h => by exfalso; (exact dCA q hq h))
    have hC := hC.later x_33
    have hC := hC.mod m_35 (fun q hq h => by have hb := List.mem_singleton.1 h; exfalso; (exact dC q hq hb))
    have hC := hC.later x_40
    have e1 : spB o = [(⟨o.who, o.what⟩ : Blw)] := by unfold spB; simp [*]
    have e2 : spG o = [] := by unfold spG; simp [*]
    have e3 : spD o = [] := by unfold spD; simp [*]
    rw [e1, e2, e3]
    simp only [List.append_nil]
    exact ⟨A_22, c_23, B, b, C, c, rfl, hS, O_25, hB, hC, (fun q hq hb => by (exact Or.elim (g_26 q hq) (fun k_43 => by (exact dA q k_43 hb)) (fun k_43 => by omega))), (fun q hq hb => by (exact dB q hq hb)), (fun q hq hb => by (exact dC q hq hb)), (fun q hq hb => by (exact Or.elim (g_26 q hb) (fun k_44 => by (exact dBA q hq k_44)) (fun k_44 => by (have := uB q hq; omega)))), (fun q hq hb => by (exact Or.elim (g_26 q hb) (fun k_45 => by (exact dCA q hq k_45)) (fun k_45 => by (have := uC q hq; omega)))), (fun q hq hb => by (exact dCB q hq hb)), (fun q hq => (g_26 q hq).imp id fun h => by omega), (fun q hq => .inl hq), (fun q hq => .inl hq), z_39⟩
  · refine sq <| rg <| vl (beq rfl rfl) rfl <| vl (as_ rfl) rfl <| nl <| nT <| ?_
    refine ceq rfl (fun h_46 => ?_) (fun h_46 => ?_)
    · refine rd [(4, 0), (6, 0), (8, 0), (10, 2), (11, 3), (14, 3)] [0, 1, 2, 3, 4, 5, 6, 7, 8, 9, 10, 11, 12, 13, 14] (by kernel_rfl) (by kernel_rfl) ?_
      refine fw rfl rfl (fun _ => mv rfl) rfl <| fw rfl rfl (fun _ => mv rfl) rfl <| fw rfl rfl (fun _ => nc rfl) rfl <| fw rfl rfl (fun _ => fa Spl_fd_order_split_1 rfl) rfl <| ?_
      have hS := hS.later x_3
      refine fq rfl rfl (fun _ x => ld rfl ((hS.later x).one Spl_ag_S_api_Go rfl)) rfl <| fw rfl rfl (fun _ => fa Spl_fd_api_Order_2 rfl) rfl <| fq rfl rfl (fun _ x => ld rfl ((B_5.later x).one Spl_ag_int rfl)) rfl <| fw rfl rfl (fun _ => fa Spl_fd_api_Order_3 rfl) rfl <| fq rfl rfl (fun _ x => ld rfl ((B_5.later x).par [.int .i64 o.spot.x, .int .i64 o.spot.y] Spl_ag_api_Cell Spl_sz_api_Cell rfl)) rfl <| fw (v := .agg #[.int .i64 o.who, .int .i64 o.spot.x, .int .i64 o.spot.y]) rfl rfl (fun _ => bd rfl (by kernel_rfl)) rfl <| fx rfl rfl rfl fun w_47 x_48 Q hK => bs (e := 99) (cs := [.int .i64 o.who, .int .i64 o.spot.x, .int .i64 o.spot.y]) rfl (fun _ => by kernel_rfl) rfl fun w_49 b_50 x_51 l_52 B_53 => hK _ _ ⟨Ext.tr x_48 x_51, ?_⟩
      have q_54 := x_48.size
      have z_47 := z_1.trans (Mod.of_ext x_48)
      have q_55 := x_51.size
      have z_49 := z_47.trans (Mod.of_ext x_51)
      have q_56 := B_53.lt
      have hB := hB.later (Ext.tr x_3 (Ext.tr x_48 x_51))
      refine fb rfl rfl rfl fun w_57 x_58 Q hK => ap Spl_el_S_api_Go Rep.flat_bare (hB.later x_58) ((Blk.has1 (R := Gox.rep) (by_ := 24) (q := (⟨o.who, ⟨o.spot.x, o.spot.y⟩⟩ : Gox)) B_53 ⟨rfl, (by obtain ⟨o0, o1, o2, o3, o4, o5⟩ := hok; exact ⟨o2, o3, o4⟩)⟩ (by decide)).keep x_58) rfl rfl (by simp only [List.length_cons, List.length_nil]; omega) (by simp only [List.length_cons, List.length_nil]; omega) (by have := x_58.size; omega) rfl fun w_59 A_60 c_61 m_62 O_63 g_64 n_65 => hK _ _ ?_
      have q_66 := x_58.size
      have z_57 := z_49.trans (Mod.of_ext x_58)
      have q_67 := m_62.size
      have z_59 := z_57.md m_62 (fun q hq => .inl (List.mem_cons_of_mem _ (List.mem_append.2 (.inr (List.mem_append.2 (.inl hq))))))
      have u_68 := fun q hq => (O_63.lt q hq).2
      have q_69 := m_62.size
      refine fw rfl rfl (fun _ => nc rfl) rfl <| fw rfl rfl (fun _ => fa Spl_fd_order_split_1 rfl) rfl <| ?_
      have hS := hS.later (Ext.tr x_48 (Ext.tr x_51 x_58))
      have hS := hS.mod m_62 (fun hq => dB _ hq rfl)
      refine fb rfl rfl rfl fun w_70 x_71 Q hK => st (new := [.slice A qb.length a, .slice A_60 ((qg ++ [(⟨o.who, ⟨o.spot.x, o.spot.y⟩⟩ : Gox)]).length) c_61, .slice C qd.length c]) rfl rfl (hS.later x_71) rfl Spl_sz_S_api_Go rfl rfl rfl fun w_72 m_73 hS => hK _ _ ?_
      have q_75 := x_71.size
      have z_70 := z_59.trans (Mod.of_ext x_71)
      have q_76 := m_73.size
      have z_72 := z_70.md m_73 (fun q hq => .inl (by rw [List.mem_singleton.1 hq]; exact List.mem_cons_self))
      have q_74 := m_73.size
      refine fn fun w_77 x_78 => ?_
      have q_79 := x_78.size
      have z_77 := z_72.trans (Mod.of_ext x_78)
      refine nB <| ne <| tR .nil <| ?_
      have hS := hS.later x_78
      have hA := hA.later (Ext.tr x_3 (Ext.tr x_48 (Ext.tr x_51 x_58)))
      have hA := hA.mod m_62 (fun q hq h => by exfalso; (exact dBA q h hq))
      have hA := hA.later x_71
      have hA := hA.mod m_73 (fun q hq h => by have hb := List.mem_singleton.1 h; exfalso; (exact dA q hq hb))
      have hA := hA.later x_78
      have O_63 := O_63.later x_71
      have O_63 := O_63.mod m_73 (fun q hq h => by have hb := List.mem_singleton.1 h; exfalso; (exact Or.elim (g_64 q hq) (fun k_80 => by (exact dB q k_80 hb)) (fun k_80 => by omega)))
      have O_63 := O_63.later x_78
      have hC := hC.later (Ext.tr x_3 (Ext.tr x_48 (Ext.tr x_51 x_58)))
      have hC := hC.mod m_62 (fun q hq h => by exfalso; (exact dCB q hq h))
      have hC := hC.later x_71
      have hC := hC.mod m_73 (fun q hq h => by have hb := List.mem_singleton.1 h; exfalso; (exact dC q hq hb))
      have hC := hC.later x_78
      have e1 : spB o = [] := by unfold spB; simp [*]
      have e2 : spG o = [(⟨o.who, ⟨o.spot.x, o.spot.y⟩⟩ : Gox)] := by unfold spG; simp [*]
      have e3 : spD o = [] := by unfold spD; simp [*]
      rw [e1, e2, e3]
      simp only [List.append_nil]
      exact ⟨A, a, A_60, c_61, C, c, rfl, hS, hA, O_63, hC, (fun q hq hb => by (exact dA q hq hb)), (fun q hq hb => by (exact Or.elim (g_64 q hq) (fun k_81 => by (exact dB q k_81 hb)) (fun k_81 => by omega))), (fun q hq hb => by (exact dC q hq hb)), (fun q hq hb => by (exact Or.elim (g_64 q hq) (fun k_82 => by (exact dBA q k_82 hb)) (fun k_82 => by (have := uA q hb; omega)))), (fun q hq hb => by (exact dCA q hq hb)), (fun q hq hb => by (exact Or.elim (g_64 q hb) (fun k_83 => by (exact dCB q hq k_83)) (fun k_83 => by (have := uC q hq; omega)))), (fun q hq => .inl hq), (fun q hq => (g_64 q hq).imp id fun h => by omega), (fun q hq => .inl hq), z_77⟩
    · refine sq <| rg <| vl (beq rfl rfl) rfl <| vl (as_ rfl) rfl <| nl <| nT <| ?_
      refine ceq rfl (fun h_84 => ?_) (fun h_84 => ?_)
      · refine rd [(4, 0), (6, 0), (8, 0), (10, 2), (11, 3), (14, 3)] [0, 1, 2, 3, 4, 5, 6, 7, 8, 9, 10, 11, 12, 13, 14] (by kernel_rfl) (by kernel_rfl) ?_
        refine fw rfl rfl (fun _ => mv rfl) rfl <| fw rfl rfl (fun _ => mv rfl) rfl <| fw rfl rfl (fun _ => nc rfl) rfl <| fw rfl rfl (fun _ => fa Spl_fd_order_split_2 rfl) rfl <| ?_
        have hS := hS.later x_3
        refine fq rfl rfl (fun _ x => ld rfl ((hS.later x).one Spl_ag_S_api_Deed rfl)) rfl <| fw rfl rfl (fun _ => fa Spl_fd_api_Order_2 rfl) rfl <| fq rfl rfl (fun _ x => ld rfl ((B_5.later x).one Spl_ag_int rfl)) rfl <| fw rfl rfl (fun _ => fa Spl_fd_api_Order_3 rfl) rfl <| fq rfl rfl (fun _ x => ld rfl ((B_5.later x).par [.int .i64 o.spot.x, .int .i64 o.spot.y] Spl_ag_api_Cell Spl_sz_api_Cell rfl)) rfl <| fw (v := .agg #[.int .i64 1, .int .i64 o.who, .int .i64 o.spot.x, .int .i64 o.spot.y, .int .i64 0]) rfl rfl (fun _ => bd rfl (by kernel_rfl)) rfl <| fx rfl rfl rfl fun w_85 x_86 Q hK => bs (e := 103) (cs := [.int .i64 1, .int .i64 o.who, .int .i64 o.spot.x, .int .i64 o.spot.y, .int .i64 0]) rfl (fun _ => by kernel_rfl) rfl fun w_87 b_88 x_89 l_90 B_91 => hK _ _ ⟨Ext.tr x_86 x_89, ?_⟩
        have q_92 := x_86.size
        have z_85 := z_1.trans (Mod.of_ext x_86)
        have q_93 := x_89.size
        have z_87 := z_85.trans (Mod.of_ext x_89)
        have q_94 := B_91.lt
        have hC := hC.later (Ext.tr x_3 (Ext.tr x_86 x_89))
        refine fb rfl rfl rfl fun w_95 x_96 Q hK => ap Spl_el_S_api_Deed Rep.flat_bare (hC.later x_96) ((Blk.has1 (R := Ded.rep) (by_ := 40) (q := (⟨1, o.who, ⟨o.spot.x, o.spot.y⟩, 0⟩ : Ded)) B_91 ⟨rfl, (by obtain ⟨o0, o1, o2, o3, o4, o5⟩ := hok; exact ⟨okI_iff.2 (by (try dsimp only); omega), o2, o3, o4, okI_iff.2 (by (try dsimp only); omega)⟩)⟩ (by decide)).keep x_96) rfl rfl (by simp only [List.length_cons, List.length_nil]; omega) (by simp only [List.length_cons, List.length_nil]; omega) (by have := x_96.size; omega) rfl fun w_97 A_98 c_99 m_100 O_101 g_102 n_103 => hK _ _ ?_
        have q_104 := x_96.size
        have z_95 := z_87.trans (Mod.of_ext x_96)
        have q_105 := m_100.size
        have z_97 := z_95.md m_100 (fun q hq => .inl (List.mem_cons_of_mem _ (List.mem_append.2 (.inr (List.mem_append.2 (.inr hq))))))
        have u_106 := fun q hq => (O_101.lt q hq).2
        have q_107 := m_100.size
        refine fw rfl rfl (fun _ => nc rfl) rfl <| fw rfl rfl (fun _ => fa Spl_fd_order_split_2 rfl) rfl <| ?_
        have hS := hS.later (Ext.tr x_86 (Ext.tr x_89 x_96))
        have hS := hS.mod m_100 (fun hq => dC _ hq rfl)
        refine fb rfl rfl rfl fun w_108 x_109 Q hK => st (new := [.slice A qb.length a, .slice B qg.length b, .slice A_98 ((qd ++ [(⟨1, o.who, ⟨o.spot.x, o.spot.y⟩, 0⟩ : Ded)]).length) c_99]) rfl rfl (hS.later x_109) rfl Spl_sz_S_api_Deed rfl rfl rfl fun w_110 m_111 hS => hK _ _ ?_
        have q_113 := x_109.size
        have z_108 := z_97.trans (Mod.of_ext x_109)
        have q_114 := m_111.size
        have z_110 := z_108.md m_111 (fun q hq => .inl (by rw [List.mem_singleton.1 hq]; exact List.mem_cons_self))
        have q_112 := m_111.size
        refine fn fun w_115 x_116 => ?_
        have q_117 := x_116.size
        have z_115 := z_110.trans (Mod.of_ext x_116)
        refine nB <| ne <| tR .nil <| ?_
        have hS := hS.later x_116
        have hA := hA.later (Ext.tr x_3 (Ext.tr x_86 (Ext.tr x_89 x_96)))
        have hA := hA.mod m_100 (fun q hq h => by exfalso; (exact dCA q h hq))
        have hA := hA.later x_109
        have hA := hA.mod m_111 (fun q hq h => by have hb := List.mem_singleton.1 h; exfalso; (exact dA q hq hb))
        have hA := hA.later x_116
        have hB := hB.later (Ext.tr x_3 (Ext.tr x_86 (Ext.tr x_89 x_96)))
        have hB := hB.mod m_100 (fun q hq h => by exfalso; (exact dCB q h hq))
        have hB := hB.later x_109
        have hB := hB.mod m_111 (fun q hq h => by have hb := List.mem_singleton.1 h; exfalso; (exact dB q hq hb))
        have hB := hB.later x_116
        have O_101 := O_101.later x_109
        have O_101 := O_101.mod m_111 (fun q hq h => by have hb := List.mem_singleton.1 h; exfalso; (exact Or.elim (g_102 q hq) (fun k_118 => by (exact dC q k_118 hb)) (fun k_118 => by omega)))
        have O_101 := O_101.later x_116
        have e1 : spB o = [] := by unfold spB; simp [*]
        have e2 : spG o = [] := by unfold spG; simp [*]
        have e3 : spD o = [(⟨1, o.who, ⟨o.spot.x, o.spot.y⟩, 0⟩ : Ded)] := by unfold spD; simp [*]
        rw [e1, e2, e3]
        simp only [List.append_nil]
        exact ⟨A, a, B, b, A_98, c_99, rfl, hS, hA, hB, O_101, (fun q hq hb => by (exact dA q hq hb)), (fun q hq hb => by (exact dB q hq hb)), (fun q hq hb => by (exact Or.elim (g_102 q hq) (fun k_119 => by (exact dC q k_119 hb)) (fun k_119 => by omega))), (fun q hq hb => by (exact dBA q hq hb)), (fun q hq hb => by (exact Or.elim (g_102 q hq) (fun k_120 => by (exact dCA q k_120 hb)) (fun k_120 => by (have := uA q hb; omega)))), (fun q hq hb => by (exact Or.elim (g_102 q hq) (fun k_121 => by (exact dCB q k_121 hb)) (fun k_121 => by (have := uB q hb; omega)))), (fun q hq => .inl hq), (fun q hq => .inl hq), (fun q hq => (g_102 q hq).imp id fun h => by omega), z_115⟩
      · refine sq <| rg <| vl (beq rfl rfl) rfl <| vl (as_ rfl) rfl <| nl <| nT <| ?_
        refine ceq rfl (fun h_122 => ?_) (fun h_122 => ?_)
        · refine rd [(4, 0), (6, 0), (8, 2), (9, 3), (12, 3)] [0, 1, 2, 3, 4, 5, 6, 7, 8, 9, 10, 11, 12] (by kernel_rfl) (by kernel_rfl) ?_
          refine fw rfl rfl (fun _ => mv rfl) rfl <| fw rfl rfl (fun _ => mv rfl) rfl <| fw rfl rfl (fun _ => nc rfl) rfl <| fw rfl rfl (fun _ => fa Spl_fd_order_split_2 rfl) rfl <| ?_
          have hS := hS.later x_3
          refine fq rfl rfl (fun _ x => ld rfl ((hS.later x).one Spl_ag_S_api_Deed rfl)) rfl <| fw rfl rfl (fun _ => fa Spl_fd_api_Order_2 rfl) rfl <| fq rfl rfl (fun _ x => ld rfl ((B_5.later x).one Spl_ag_int rfl)) rfl <| fw (v := .agg #[.int .i64 2, .int .i64 o.who, .int .i64 0, .int .i64 0, .int .i64 0]) rfl rfl (fun _ => bd rfl (by kernel_rfl)) rfl <| fx rfl rfl rfl fun w_123 x_124 Q hK => bs (e := 103) (cs := [.int .i64 2, .int .i64 o.who, .int .i64 0, .int .i64 0, .int .i64 0]) rfl (fun _ => by kernel_rfl) rfl fun w_125 b_126 x_127 l_128 B_129 => hK _ _ ⟨Ext.tr x_124 x_127, ?_⟩
          have q_130 := x_124.size
          have z_123 := z_1.trans (Mod.of_ext x_124)
          have q_131 := x_127.size
          have z_125 := z_123.trans (Mod.of_ext x_127)
          have q_132 := B_129.lt
          have hC := hC.later (Ext.tr x_3 (Ext.tr x_124 x_127))
          refine fb rfl rfl rfl fun w_133 x_134 Q hK => ap Spl_el_S_api_Deed Rep.flat_bare (hC.later x_134) ((Blk.has1 (R := Ded.rep) (by_ := 40) (q := (⟨2, o.who, ⟨0, 0⟩, 0⟩ : Ded)) B_129 ⟨rfl, (by obtain ⟨o0, o1, o2, o3, o4, o5⟩ := hok; exact ⟨okI_iff.2 (by (try dsimp only); omega), o2, okI_iff.2 (by (try dsimp only); omega), okI_iff.2 (by (try dsimp only); omega), okI_iff.2 (by (try dsimp only); omega)⟩)⟩ (by decide)).keep x_134) rfl rfl (by simp only [List.length_cons, List.length_nil]; omega) (by simp only [List.length_cons, List.length_nil]; omega) (by have := x_134.size; omega) rfl fun w_135 A_136 c_137 m_138 O_139 g_140 n_141 => hK _ _ ?_
          have q_142 := x_134.size
          have z_133 := z_125.trans (Mod.of_ext x_134)
          have q_143 := m_138.size
          have z_135 := z_133.md m_138 (fun q hq => .inl (List.mem_cons_of_mem _ (List.mem_append.2 (.inr (List.mem_append.2 (.inr hq))))))
          have u_144 := fun q hq => (O_139.lt q hq).2
          have q_145 := m_138.size
          refine fw rfl rfl (fun _ => nc rfl) rfl <| fw rfl rfl (fun _ => fa Spl_fd_order_split_2 rfl) rfl <| ?_
          have hS := hS.later (Ext.tr x_124 (Ext.tr x_127 x_134))
          have hS := hS.mod m_138 (fun hq => dC _ hq rfl)
          refine fb rfl rfl rfl fun w_146 x_147 Q hK => st (new := [.slice A qb.length a, .slice B qg.length b, .slice A_136 ((qd ++ [(⟨2, o.who, ⟨0, 0⟩, 0⟩ : Ded)]).length) c_137]) rfl rfl (hS.later x_147) rfl Spl_sz_S_api_Deed rfl rfl rfl fun w_148 m_149 hS => hK _ _ ?_
          have q_151 := x_147.size
          have z_146 := z_135.trans (Mod.of_ext x_147)
          have q_152 := m_149.size
          have z_148 := z_146.md m_149 (fun q hq => .inl (by rw [List.mem_singleton.1 hq]; exact List.mem_cons_self))
          have q_150 := m_149.size
          refine fn fun w_153 x_154 => ?_
          have q_155 := x_154.size
          have z_153 := z_148.trans (Mod.of_ext x_154)
          refine nB <| ne <| tR .nil <| ?_
          have hS := hS.later x_154
          have hA := hA.later (Ext.tr x_3 (Ext.tr x_124 (Ext.tr x_127 x_134)))
          have hA := hA.mod m_138 (fun q hq h => by exfalso; (exact dCA q h hq))
          have hA := hA.later x_147
          have hA := hA.mod m_149 (fun q hq h => by have hb := List.mem_singleton.1 h; exfalso; (exact dA q hq hb))
          have hA := hA.later x_154
          have hB := hB.later (Ext.tr x_3 (Ext.tr x_124 (Ext.tr x_127 x_134)))
          have hB := hB.mod m_138 (fun q hq h => by exfalso; (exact dCB q h hq))
          have hB := hB.later x_147
          have hB := hB.mod m_149 (fun q hq h => by have hb := List.mem_singleton.1 h; exfalso; (exact dB q hq hb))
          have hB := hB.later x_154
          have O_139 := O_139.later x_147
          have O_139 := O_139.mod m_149 (fun q hq h => by have hb := List.mem_singleton.1 h; exfalso; (exact Or.elim (g_140 q hq) (fun k_156 => by (exact dC q k_156 hb)) (fun k_156 => by omega)))
          have O_139 := O_139.later x_154
          have e1 : spB o = [] := by unfold spB; simp [*]
          have e2 : spG o = [] := by unfold spG; simp [*]
          have e3 : spD o = [(⟨2, o.who, ⟨0, 0⟩, 0⟩ : Ded)] := by unfold spD; simp [*]
          rw [e1, e2, e3]
          simp only [List.append_nil]
          exact ⟨A, a, B, b, A_136, c_137, rfl, hS, hA, hB, O_139, (fun q hq hb => by (exact dA q hq hb)), (fun q hq hb => by (exact dB q hq hb)), (fun q hq hb => by (exact Or.elim (g_140 q hq) (fun k_157 => by (exact dC q k_157 hb)) (fun k_157 => by omega))), (fun q hq hb => by (exact dBA q hq hb)), (fun q hq hb => by (exact Or.elim (g_140 q hq) (fun k_158 => by (exact dCA q k_158 hb)) (fun k_158 => by (have := uA q hb; omega)))), (fun q hq hb => by (exact Or.elim (g_140 q hq) (fun k_159 => by (exact dCB q k_159 hb)) (fun k_159 => by (have := uB q hb; omega)))), (fun q hq => .inl hq), (fun q hq => .inl hq), (fun q hq => (g_140 q hq).imp id fun h => by omega), z_153⟩
        · refine sq <| rg <| vl (beq rfl rfl) rfl <| vl (as_ rfl) rfl <| nl <| nT <| ?_
          refine ceq rfl (fun h_160 => ?_) (fun h_160 => ?_)
          · refine rd [(4, 0), (6, 0), (8, 0), (10, 2), (11, 3), (14, 3)] [0, 1, 2, 3, 4, 5, 6, 7, 8, 9, 10, 11, 12, 13, 14] (by kernel_rfl) (by kernel_rfl) ?_
            refine fw rfl rfl (fun _ => mv rfl) rfl <| fw rfl rfl (fun _ => mv rfl) rfl <| fw rfl rfl (fun _ => nc rfl) rfl <| fw rfl rfl (fun _ => fa Spl_fd_order_split_2 rfl) rfl <| ?_
            have hS := hS.later x_3
            refine fq rfl rfl (fun _ x => ld rfl ((hS.later x).one Spl_ag_S_api_Deed rfl)) rfl <| fw rfl rfl (fun _ => fa Spl_fd_api_Order_0 rfl) rfl <| fq rfl rfl (fun _ x => ld rfl ((B_5.later x).one Spl_ag_int rfl)) rfl <| fw rfl rfl (fun _ => fa Spl_fd_api_Order_4 rfl) rfl <| fq rfl rfl (fun _ x => ld rfl ((B_5.later x).one Spl_ag_int rfl)) rfl <| fw (v := .agg #[.int .i64 3, .int .i64 o.by_, .int .i64 0, .int .i64 0, .int .i64 o.what]) rfl rfl (fun _ => bd rfl (by kernel_rfl)) rfl <| fx rfl rfl rfl fun w_161 x_162 Q hK => bs (e := 103) (cs := [.int .i64 3, .int .i64 o.by_, .int .i64 0, .int .i64 0, .int .i64 o.what]) rfl (fun _ => by kernel_rfl) rfl fun w_163 b_164 x_165 l_166 B_167 => hK _ _ ⟨Ext.tr x_162 x_165, ?_⟩
            have q_168 := x_162.size
            have z_161 := z_1.trans (Mod.of_ext x_162)
            have q_169 := x_165.size
            have z_163 := z_161.trans (Mod.of_ext x_165)
            have q_170 := B_167.lt
            have hC := hC.later (Ext.tr x_3 (Ext.tr x_162 x_165))
            refine fb rfl rfl rfl fun w_171 x_172 Q hK => ap Spl_el_S_api_Deed Rep.flat_bare (hC.later x_172) ((Blk.has1 (R := Ded.rep) (by_ := 40) (q := (⟨3, o.by_, ⟨0, 0⟩, o.what⟩ : Ded)) B_167 ⟨rfl, (by obtain ⟨o0, o1, o2, o3, o4, o5⟩ := hok; exact ⟨okI_iff.2 (by (try dsimp only); omega), o0, okI_iff.2 (by (try dsimp only); omega), okI_iff.2 (by (try dsimp only); omega), o5⟩)⟩ (by decide)).keep x_172) rfl rfl (by simp only [List.length_cons, List.length_nil]; omega) (by simp only [List.length_cons, List.length_nil]; omega) (by have := x_172.size; omega) rfl fun w_173 A_174 c_175 m_176 O_177 g_178 n_179 => hK _ _ ?_
            have q_180 := x_172.size
            have z_171 := z_163.trans (Mod.of_ext x_172)
            have q_181 := m_176.size
            have z_173 := z_171.md m_176 (fun q hq => .inl (List.mem_cons_of_mem _ (List.mem_append.2 (.inr (List.mem_append.2 (.inr hq))))))
            have u_182 := fun q hq => (O_177.lt q hq).2
            have q_183 := m_176.size
            refine fw rfl rfl (fun _ => nc rfl) rfl <| fw rfl rfl (fun _ => fa Spl_fd_order_split_2 rfl) rfl <| ?_
            have hS := hS.later (Ext.tr x_162 (Ext.tr x_165 x_172))
            have hS := hS.mod m_176 (fun hq => dC _ hq rfl)
            refine fb rfl rfl rfl fun w_184 x_185 Q hK => st (new := [.slice A qb.length a, .slice B qg.length b, .slice A_174 ((qd ++ [(⟨3, o.by_, ⟨0, 0⟩, o.what⟩ : Ded)]).length) c_175]) rfl rfl (hS.later x_185) rfl Spl_sz_S_api_Deed rfl rfl rfl fun w_186 m_187 hS => hK _ _ ?_
            have q_189 := x_185.size
            have z_184 := z_173.trans (Mod.of_ext x_185)
            have q_190 := m_187.size
            have z_186 := z_184.md m_187 (fun q hq => .inl (by rw [List.mem_singleton.1 hq]; exact List.mem_cons_self))
            have q_188 := m_187.size
            refine fn fun w_191 x_192 => ?_
            have q_193 := x_192.size
            have z_191 := z_186.trans (Mod.of_ext x_192)
            refine nB <| ne <| tR .nil <| ?_
            have hS := hS.later x_192
            have hA := hA.later (Ext.tr x_3 (Ext.tr x_162 (Ext.tr x_165 x_172)))
            have hA := hA.mod m_176 (fun q hq h => by exfalso; (exact dCA q h hq))
            have hA := hA.later x_185
            have hA := hA.mod m_187 (fun q hq h => by have hb := List.mem_singleton.1 h; exfalso; (exact dA q hq hb))
            have hA := hA.later x_192
            have hB := hB.later (Ext.tr x_3 (Ext.tr x_162 (Ext.tr x_165 x_172)))
            have hB := hB.mod m_176 (fun q hq h => by exfalso; (exact dCB q h hq))
            have hB := hB.later x_185
            have hB := hB.mod m_187 (fun q hq h => by have hb := List.mem_singleton.1 h; exfalso; (exact dB q hq hb))
            have hB := hB.later x_192
            have O_177 := O_177.later x_185
            have O_177 := O_177.mod m_187 (fun q hq h => by have hb := List.mem_singleton.1 h; exfalso; (exact Or.elim (g_178 q hq) (fun k_194 => by (exact dC q k_194 hb)) (fun k_194 => by omega)))
            have O_177 := O_177.later x_192
            have e1 : spB o = [] := by unfold spB; simp [*]
            have e2 : spG o = [] := by unfold spG; simp [*]
            have e3 : spD o = [(⟨3, o.by_, ⟨0, 0⟩, o.what⟩ : Ded)] := by unfold spD; simp [*]
            rw [e1, e2, e3]
            simp only [List.append_nil]
            exact ⟨A, a, B, b, A_174, c_175, rfl, hS, hA, hB, O_177, (fun q hq hb => by (exact dA q hq hb)), (fun q hq hb => by (exact dB q hq hb)), (fun q hq hb => by (exact Or.elim (g_178 q hq) (fun k_195 => by (exact dC q k_195 hb)) (fun k_195 => by omega))), (fun q hq hb => by (exact dBA q hq hb)), (fun q hq hb => by (exact Or.elim (g_178 q hq) (fun k_196 => by (exact dCA q k_196 hb)) (fun k_196 => by (have := uA q hb; omega)))), (fun q hq hb => by (exact Or.elim (g_178 q hq) (fun k_197 => by (exact dCB q k_197 hb)) (fun k_197 => by (have := uB q hb; omega)))), (fun q hq => .inl hq), (fun q hq => .inl hq), (fun q hq => (g_178 q hq).imp id fun h => by omega), z_191⟩
          · refine sk <| nB <| ne <| tR .nil <| ?_
            have hS := hS.later x_3
            have hA := hA.later x_3
            have hB := hB.later x_3
            have hC := hC.later x_3
            have e1 : spB o = [] := by unfold spB; simp [*]
            have e2 : spG o = [] := by unfold spG; simp [*]
            have e3 : spD o = [] := by unfold spD; simp [*]
            rw [e1, e2, e3]
            simp only [List.append_nil]
            exact ⟨A, a, B, b, C, c, rfl, hS, hA, hB, hC, (fun q hq hb => by (exact dA q hq hb)), (fun q hq hb => by (exact dB q hq hb)), (fun q hq hb => by (exact dC q hq hb)), (fun q hq hb => by (exact dBA q hq hb)), (fun q hq hb => by (exact dCA q hq hb)), (fun q hq hb => by (exact dCB q hq hb)), (fun q hq => .inl hq), (fun q hq => .inl hq), (fun q hq => .inl hq), z_1⟩
end Go.Proofs.Ytfabhinehfhndaa
