/-
  A deed, and deeds. (Printed by bin/goods_o.py.)
-/
import Derived.Test.YticfnngppcmidaaGooL
import Derived.Test.YticfnngppcmidaaGooP
import Derived.Test.YticfnngppcmidaaGooO
import Derived.Test.YticfnngppcmidaaTroH
set_option linter.unusedVariables false
set_option linter.unusedSimpArgs false
namespace Go.Proofs.Yticfnngppcmidaa
open Go.RowKit

theorem GooQ_fd_api_Deed_0 : Fd Try.prog 45 0 0 := fun _ _ _ => by kernel_rfl
theorem GooQ_ag_int : Ag Try.prog 3 false := fun _ => by kernel_rfl
theorem GooQ_ag_api_Deed : Ag Try.prog 45 true := fun _ => by kernel_rfl
theorem GooQ_sz_api_Deed : Sz Try.prog 45 5 := fun _ => by kernel_rfl
theorem GooQ_en__P_goods_shop__mine : Enters Try.prog 65 := en Try.func65 (by kernel_rfl) (by kernel_rfl)
theorem GooQ_en__P_goods_shop__drop : Enters Try.prog 66 := en Try.func66 (by kernel_rfl) (by kernel_rfl)
theorem GooQ_en__P_goods_shop__hire : Enters Try.prog 67 := en Try.func67 (by kernel_rfl) (by kernel_rfl)
theorem GooQ_zv_api_World : Zv Try.prog 28 (.agg #[.int .i64 0, .int .i64 0, .slice none 0 0, .slice none 0 0, .slice none 0 0, .slice none 0 0, .slice none 0 0, .int .i64 0, .int .i64 0]) := fun _ => by kernel_rfl
theorem GooQ_ag_api_World : Ag Try.prog 28 true := fun _ => by kernel_rfl
theorem GooQ_sz_api_World : Sz Try.prog 28 9 := fun _ => by kernel_rfl
theorem GooQ_en_troop_Check : Enters Try.prog 17 := en Try.func17 (by kernel_rfl) (by kernel_rfl)
theorem GooQ_en_goods_own : Enters Try.prog 51 := en Try.func51 (by kernel_rfl) (by kernel_rfl)
theorem GooQ_zv_goods_shop : Zv Try.prog 91 (.agg #[.int .i64 0, .int .i64 0, .slice none 0 0, .slice none 0 0, .slice none 0 0, .slice none 0 0, .slice none 0 0, .int .i64 0, .int .i64 0]) := fun _ => by kernel_rfl
theorem GooQ_sz_goods_shop : Sz Try.prog 91 9 := fun _ => by kernel_rfl
theorem GooQ_zv_api_Deed : Zv Try.prog 45 (.agg #[.int .i64 0, .int .i64 0, .int .i64 0, .int .i64 0, .int .i64 0]) := fun _ => by kernel_rfl
theorem GooQ_en__P_goods_shop__deed : Enters Try.prog 52 := en Try.func52 (by kernel_rfl) (by kernel_rfl)
theorem GooQ_el_S_bool : ElT Try.prog repB 30 4 1 := ElT.mk_ (z := .bool false) (k := 1) Try.underlying30 (by kernel_rfl) rfl rfl (by decide) (fun j u h => raw0B j u h)
theorem GooQ_fd_goods_shop_0 : Fd Try.prog 91 0 0 := fun _ _ _ => by kernel_rfl
theorem Wd.deed_mine {W : Wd} {d : Ded} (h : d.kind = 1) : W.deed d = W.mine d := by unfold Wd.deed; rw [if_pos h]
theorem Wd.deed_drop {W : Wd} {d : Ded} (h : d.kind = 2) : W.deed d = W.drop d := by unfold Wd.deed; rw [if_neg (by omega), if_pos h]
theorem Wd.deed_hire {W : Wd} {d : Ded} (h : d.kind = 3) : W.deed d = W.hire d := by unfold Wd.deed; rw [if_neg (by omega), if_neg (by omega), if_pos h]
theorem Wd.deed_no {W : Wd} {d : Ded} (h1 : ¬ d.kind = 1) (h2 : ¬ d.kind = 2) (h3 : ¬ d.kind = 3) : W.deed d = none := by unfold Wd.deed; rw [if_neg h1, if_neg h2, if_neg h3]
theorem deed_at {W : Wd} {V : Option Wd} {w w1 : World} {Z S : Nat} {a : Wd.At} {f : FuncId} {args : Array Value} (h : Calls Try.prog f args w1 (ShopPost W V w1 Z S a)) (x : Ext w w1) : Calls Try.prog f args w1 (ShopPost W V w Z S a) :=
  h.mono fun e w2 ⟨a2, h1, h2, h3, h4⟩ => ⟨a2, h1, h2, fun q hq => (h3 q hq).imp id fun h => Nat.le_trans x.size h, (Mod.of_ext x).trans h4⟩
theorem mine_any2 (d : Ded) (w : World) (Z S : Nat) (a : Wd.At) (W : Wd) (h : Shop w Z S a W) (hG : Good W) : Calls Try.prog 65 #[.pointer (some ⟨S, 0, none⟩), .agg #[.int .i64 d.kind, .int .i64 d.who, .int .i64 d.spot.x, .int .i64 d.spot.y, .int .i64 d.what]] w (ShopPost W (W.mine d) w Z S a) := by
  cases hf : W.troops.findIdx? (isId d.who) with
  | none => exact mine2_none d w Z S a W h hG hf
  | some k => obtain ⟨t, ht, _⟩ := findId hf; exact mine2 d w Z S a W h hG k t hf ht
theorem drop_any2 (d : Ded) (w : World) (Z S : Nat) (a : Wd.At) (W : Wd) (h : Shop w Z S a W) (hG : Good W) : Calls Try.prog 66 #[.pointer (some ⟨S, 0, none⟩), .agg #[.int .i64 d.kind, .int .i64 d.who, .int .i64 d.spot.x, .int .i64 d.spot.y, .int .i64 d.what]] w (ShopPost W (W.drop d) w Z S a) := by
  cases hf : W.troops.findIdx? (isId d.who) with
  | none => exact drop2_none d w Z S a W h hG hf
  | some k => obtain ⟨t, ht, _⟩ := findId hf; exact drop2 d w Z S a W h hG k t hf ht
theorem hire_any2 (d : Ded) (w : World) (Z S : Nat) (a : Wd.At) (W : Wd) (h : Shop w Z S a W) (hG : Good W) : Calls Try.prog 67 #[.pointer (some ⟨S, 0, none⟩), .agg #[.int .i64 d.kind, .int .i64 d.who, .int .i64 d.spot.x, .int .i64 d.spot.y, .int .i64 d.what]] w (ShopPost W (W.hire d) w Z S a) := hire2 d w Z S a W h hG
theorem Shop.mod {w w1 : World} {Z S : Nat} {a : Wd.At} {W : Wd} {T : List Nat} (h : Shop w Z S a W) (m : Mod T w w1) (hd : ∀ q ∈ T, q ≠ S ∧ q ∉ WOwn.foot a) : Shop w1 Z S a W :=
  ⟨h.blk.mod m fun hq => (hd _ hq).1 rfl, h.own.mod m fun q hq hT => (hd q hT).2 hq, h.far, h.low⟩
theorem WOwn.down {w : World} {Z Z' : Nat} {a : Wd.At} {W : Wd} (h : WOwn w Z a W) (hz : Z' ≤ Z) : WOwn w Z' a W := ⟨h.P.down hz, h.B.down hz, h.S.down hz, h.M.down hz, h.T.down hz, h.apart, h.nums⟩
def Wd.zero : Wd := ⟨⟨0, 0, []⟩, [], [], [], [], 0, 0⟩
theorem WOwn.zero (w : World) (Z : Nat) : WOwn w Z ⟨none, none, none, none, none, 0, 0, 0, 0, 0⟩ Wd.zero := ⟨Rep.SOwn.nil w, Rep.SOwn.nil w, Rep.SOwn.nil w, Rep.SOwn.nil w, Rep.SOwn.nil w, by simp [Rep.blkOf], okI_iff.2 (by decide), okI_iff.2 (by decide), okI_iff.2 (by decide), okI_iff.2 (by decide)⟩
def Wd.doE (W : Wd) (l : List Ded) : Int := if W.chk ≠ 0 then W.chk else if 200 < l.length then 2 else 0
def Wd.doW (W : Wd) (l : List Ded) : Wd := if W.doE l = 0 then (W.deeds l).1 else Wd.zero
def Wd.doB (W : Wd) (l : List Ded) : List Bool := if W.doE l = 0 then (W.deeds l).2 else []
/-- What goods.Do leaves. -/
def DoPost (W : Wd) (l : List Ded) (w : World) (e : Ending) (w' : World) : Prop :=
  ∃ a' A c, e = .returned (.tuple #[.agg (Wd.cells a' (W.doW l)).toArray, .slice A (W.doB l).length c, .int .i64 (W.doE l)]) ∧ WOwn w' w.heap.size a' (W.doW l) ∧ repB.SOwn 4 1 w' w.heap.size (Rep.blkOf A) A c (W.doB l) ∧ (∀ q ∈ Rep.blkOf A, q ∉ WOwn.foot a') ∧ Ext w w'
theorem do_bad {W : Wd} {l : List Ded} (h : ¬ W.chk = 0) : W.doW l = Wd.zero ∧ W.doB l = [] ∧ W.doE l = W.chk := by
  have he : W.doE l = W.chk := by unfold Wd.doE; rw [if_pos h]
  unfold Wd.doW Wd.doB
  rw [he, if_neg h, if_neg h]
  exact ⟨rfl, rfl, rfl⟩
theorem do_large {W : Wd} {l : List Ded} (h : W.chk = 0) (hl : 200 < l.length) : W.doW l = Wd.zero ∧ W.doB l = [] ∧ W.doE l = 2 := by
  have he : W.doE l = 2 := by unfold Wd.doE; rw [if_neg (by simpa using h), if_pos hl]
  unfold Wd.doW Wd.doB
  rw [he]
  exact ⟨rfl, rfl, rfl⟩
theorem do_ok3 {W : Wd} {l : List Ded} (h : W.chk = 0) (hl : l.length ≤ 200) : W.doE l = 0 := by unfold Wd.doE; rw [if_neg (by simpa using h), if_neg (by omega)]
theorem do_ok1 {W : Wd} {l : List Ded} (h : W.chk = 0) (hl : l.length ≤ 200) : W.doW l = (W.deeds l).1 := by unfold Wd.doW; rw [if_pos (do_ok3 h hl)]
theorem do_ok2 {W : Wd} {l : List Ded} (h : W.chk = 0) (hl : l.length ≤ 200) : W.doB l = (W.deeds l).2 := by unfold Wd.doB; rw [if_pos (do_ok3 h hl)]
theorem deeds_snoc (W : Wd) (l : List Ded) (d : Ded) : W.deeds (l ++ [d]) = (((W.deeds l).1.deed d).getD (W.deeds l).1, (W.deeds l).2 ++ [((W.deeds l).1.deed d).isSome]) := by
  induction l generalizing W with
  | nil => simp only [List.nil_append, Wd.deeds]; cases W.deed d <;> rfl
  | cons x r ih =>
    simp only [List.cons_append, Wd.deeds]
    cases W.deed x with
    | none => simp only [ih]; rfl
    | some V => simp only [ih]; rfl
theorem deeds_take {W : Wd} {l : List Ded} {k : Nat} (hk : k < l.length) : W.deeds (l.take (k + 1)) = (((W.deeds (l.take k)).1.deed (l.getD k default)).getD (W.deeds (l.take k)).1, (W.deeds (l.take k)).2 ++ [((W.deeds (l.take k)).1.deed (l.getD k default)).isSome]) := by
  rw [← deeds_snoc, List.take_succ_eq_append_getElem hk]
  congr 3
  rw [List.getD_eq_getElem?_getD, List.getElem?_eq_getElem hk]; rfl
theorem deeds_len (W : Wd) (l : List Ded) : (W.deeds l).2.length = l.length := by
  induction l generalizing W with
  | nil => rfl
  | cons x r ih =>
    simp only [Wd.deeds]
    cases W.deed x with
    | none => simp only [List.length_cons, ih]
    | some V => simp only [List.length_cons, ih]
set_option maxRecDepth 100000 in
set_option maxHeartbeats 400000 in
theorem deed2 (d : Ded) (w : World) (Z S : Nat) (a : Wd.At) (W : Wd) (h : Shop w Z S a W) (hG : Good W) :
    Calls Try.prog 52 #[.pointer (some ⟨S, 0, none⟩), .agg #[.int .i64 d.kind, .int .i64 d.who, .int .i64 d.spot.x, .int .i64 d.spot.y, .int .i64 d.what]] w (ShopPost W (W.deed d) w Z S a) := by
  refine calls_W (n := 22) Try.func52 rfl rfl rfl ?_
  refine sq <| rg <| bx rfl rfl rfl rfl fun w_1 b_2 x_3 l_4 B_5 => ?_
  have q_6 := x_3.size
  have z_1 := Ext.tr (Ext.rf w) x_3
  have hx := z_1
  have q_7 := B_5.lt
  refine vl (as_ rfl) rfl <| nl <| nT <| sq <| sq <| rg <| vl (fa GooQ_fd_api_Deed_0 rfl) rfl <| vl (ld rfl (B_5.one GooQ_ag_int rfl)) rfl <| nl <| nT <| bk <| sq <| rg <| vl (beq rfl rfl) rfl <| vl (as_ rfl) rfl <| nl <| nT <| ?_
  refine ceq rfl (fun h_8 => ?_) (fun h_8 => ?_)
  · refine sq <| rg <| vl (mv rfl) rfl <| vl (ld rfl (B_5.all GooQ_ag_api_Deed GooQ_sz_api_Deed)) rfl <| ca GooQ_en__P_goods_shop__mine rfl rfl ((deed_at (mine_any2 d _ Z S a W (h.later z_1) hG) hx).mono ?_)
    rintro e w_9 ⟨a2, rfl, hS, hf, hm⟩
    refine ⟨_, rfl, ?_⟩
    refine vl (as_ rfl) rfl <| nl <| nT <| rt <| tB <| tT <| tR (.tmp rfl .nil) <| ?_
    exact ⟨a2, by rw [Wd.deed_mine ‹_›]; rfl, by rw [Wd.deed_mine ‹_›]; exact hS, hf, hm⟩
  · refine sq <| rg <| vl (beq rfl rfl) rfl <| vl (as_ rfl) rfl <| nl <| nT <| ?_
    refine ceq rfl (fun h_10 => ?_) (fun h_10 => ?_)
    · refine sq <| rg <| vl (mv rfl) rfl <| vl (ld rfl (B_5.all GooQ_ag_api_Deed GooQ_sz_api_Deed)) rfl <| ca GooQ_en__P_goods_shop__drop rfl rfl ((deed_at (drop_any2 d _ Z S a W (h.later z_1) hG) hx).mono ?_)
      rintro e w_11 ⟨a2, rfl, hS, hf, hm⟩
      refine ⟨_, rfl, ?_⟩
      refine vl (as_ rfl) rfl <| nl <| nT <| rt <| tB <| tT <| tR (.tmp rfl .nil) <| ?_
      exact ⟨a2, by rw [Wd.deed_drop ‹_›]; rfl, by rw [Wd.deed_drop ‹_›]; exact hS, hf, hm⟩
    · refine sq <| rg <| vl (beq rfl rfl) rfl <| vl (as_ rfl) rfl <| nl <| nT <| ?_
      refine ceq rfl (fun h_12 => ?_) (fun h_12 => ?_)
      · refine sq <| rg <| vl (mv rfl) rfl <| vl (ld rfl (B_5.all GooQ_ag_api_Deed GooQ_sz_api_Deed)) rfl <| ca GooQ_en__P_goods_shop__hire rfl rfl ((deed_at (hire_any2 d _ Z S a W (h.later z_1) hG) hx).mono ?_)
        rintro e w_13 ⟨a2, rfl, hS, hf, hm⟩
        refine ⟨_, rfl, ?_⟩
        refine vl (as_ rfl) rfl <| nl <| nT <| rt <| tB <| tT <| tR (.tmp rfl .nil) <| ?_
        exact ⟨a2, by rw [Wd.deed_hire ‹_›]; rfl, by rw [Wd.deed_hire ‹_›]; exact hS, hf, hm⟩
      · refine sk <| nB <| nT <| sq <| rg <| vl (as_ rfl) rfl <| nl <| nT <| rt <| tR (.tmp rfl .nil) <| ?_
        exact ⟨a, by rw [Wd.deed_no ‹_› ‹_› ‹_›]; rfl, by rw [Wd.deed_no ‹_› ‹_› ‹_›]; exact h.later z_1, fun q hq => .inl hq, Mod.of_ext z_1⟩
set_option maxRecDepth 100000 in
set_option maxHeartbeats 400000 in
theorem do_any (l : List Ded) (A : Option Addr) (c : Nat) (w : World) (a : Wd.At) (W : Wd) (hW : Wd.Has w a W) (hl : Ded.rep.SHas 40 w A c l) :
    Calls Try.prog 15 #[.agg ((Wd.cells a W).toArray), .slice A l.length c] w (DoPost W l w) := by
  have hz0 := (Ext.rf w).size
  refine calls_W (n := 40) Try.func15 rfl rfl rfl ?_
  refine sq <| rg <| bx rfl rfl rfl rfl fun w_1 b_2 x_3 l_4 B_5 => ?_
  have q_6 := x_3.size
  have z_1 := Ext.tr (Ext.rf w) x_3
  have q_7 := B_5.lt
  refine al rfl GooQ_zv_api_World rfl rfl fun w_8 b_9 x_10 l_11 B_12 => ?_
  have q_13 := x_10.size
  have z_8 := Ext.tr z_1 x_10
  have q_14 := B_12.lt
  refine vl (as_ rfl) rfl <| vl (as_ rfl) rfl <| nl <| nT <| sq <| sq <| rg <| ?_
  have B_5 := B_5.later x_10
  refine vl (ld rfl (B_5.all GooQ_ag_api_World GooQ_sz_api_World)) rfl <| ca GooQ_en_troop_Check rfl rfl ((check_any a W _ (hW.keep z_8)).mono ?_)
  rintro e w_15 ⟨rfl, x_16⟩
  refine ⟨_, rfl, ?_⟩
  have q_17 := x_16.size
  have z_15 := Ext.tr z_8 x_16
  refine vl (as_ rfl) rfl <| nl <| nT <| sq <| rg <| vl (mv rfl) rfl <| vl (bne rfl rfl) rfl <| nl <| nT <| ?_
  refine cne rfl (fun h_18 => ?_) (fun h_18 => ?_)
  · refine sq <| rg <| vl (v := .agg #[.int .i64 0, .int .i64 0, .slice none 0 0, .slice none 0 0, .slice none 0 0, .slice none 0 0, .slice none 0 0, .int .i64 0, .int .i64 0]) (bd rfl (by kernel_rfl)) rfl <| vl (mv rfl) rfl <| ?_
    have B_12 := B_12.later x_16
    refine st (new := [.int .i64 0, .int .i64 0, .slice none 0 0, .slice none 0 0, .slice none 0 0, .slice none 0 0, .slice none 0 0, .int .i64 0, .int .i64 0]) rfl rfl B_12 rfl GooQ_sz_api_World rfl rfl rfl fun w_19 m_20 B_12 => ?_
    have q_22 := m_20.size
    have z_19 := Ext.mod z_15 m_20 (by simp only [List.mem_singleton, forall_eq]; omega)
    have q_21 := m_20.size
    refine vl (as_ rfl) rfl <| vl (as_ rfl) rfl <| nl <| nT <| rt <| tT <| tR (.cell rfl (B_12.all GooQ_ag_api_World GooQ_sz_api_World) (.tmp rfl (.tmp rfl .nil))) <| ?_
    obtain ⟨e1, e2, e3⟩ := do_bad ‹_›
    exact ⟨⟨none, none, none, none, none, 0, 0, 0, 0, 0⟩, none, 0, by rw [e1, e2, e3]; rfl, by rw [e1]; exact WOwn.zero _ _, by rw [e2]; exact Rep.SOwn.nil _, fun q hq => by simp [Rep.blkOf] at hq, z_19⟩
  · have hG := Good.of_chk h_18
    refine sk <| nT <| sq <| sq <| rg <| vl (mv rfl) rfl <| vl (ln Try.underlying29 rfl) rfl <| vl (bgt rfl rfl) rfl <| nl <| nT <| ?_
    refine clt rfl (fun h_23 => ?_) (fun h_23 => ?_)
    · refine sq <| rg <| vl (v := .agg #[.int .i64 0, .int .i64 0, .slice none 0 0, .slice none 0 0, .slice none 0 0, .slice none 0 0, .slice none 0 0, .int .i64 0, .int .i64 0]) (bd rfl (by kernel_rfl)) rfl <| ?_
      have B_12 := B_12.later x_16
      refine st (new := [.int .i64 0, .int .i64 0, .slice none 0 0, .slice none 0 0, .slice none 0 0, .slice none 0 0, .slice none 0 0, .int .i64 0, .int .i64 0]) rfl rfl B_12 rfl GooQ_sz_api_World rfl rfl rfl fun w_24 m_25 B_12 => ?_
      have q_27 := m_25.size
      have z_24 := Ext.mod z_15 m_25 (by simp only [List.mem_singleton, forall_eq]; omega)
      have q_26 := m_25.size
      refine vl (as_ rfl) rfl <| vl (as_ rfl) rfl <| nl <| nT <| rt <| tT <| tR (.cell rfl (B_12.all GooQ_ag_api_World GooQ_sz_api_World) (.tmp rfl (.tmp rfl .nil))) <| ?_
      obtain ⟨e1, e2, e3⟩ := do_large (W := W) (l := l) h_18 (by omega)
      exact ⟨⟨none, none, none, none, none, 0, 0, 0, 0, 0⟩, none, 0, by rw [e1, e2, e3]; rfl, by rw [e1]; exact WOwn.zero _ _, by rw [e2]; exact Rep.SOwn.nil _, fun q hq => by simp [Rep.blkOf] at hq, z_24⟩
    · refine sk <| nT <| sq <| rg <| ?_
      have B_5 := B_5.later x_16
      refine vl (ld rfl (B_5.all GooQ_ag_api_World GooQ_sz_api_World)) rfl <| ca GooQ_en_goods_own rfl rfl ((own_any a W _ (hW.keep z_15)).mono ?_)
      rintro e w_29 ⟨a1, rfl, HO, x_30⟩
      refine ⟨_, rfl, ?_⟩
      have q_31 := x_30.size
      have z_29 := Ext.tr z_15 x_30
      have u_28 := fun q hq => (HO.lt q hq).2
      have lo := fun q hq => (HO.lt q hq).1
      refine vl (v := .agg #[.int .i64 W.field.wide, .int .i64 W.field.high, .slice a1.P W.field.places.length a1.p, .slice a1.B W.bases.length a1.b, .slice a1.S W.stocks.length a1.s, .slice a1.M W.mines.length a1.m, .slice a1.T W.troops.length a1.t, .int .i64 W.next, .int .i64 W.now]) (bd rfl (by kernel_rfl)) rfl <| al rfl GooQ_zv_goods_shop rfl rfl fun w_32 b_33 x_34 l_35 B_36 => ?_
      have q_37 := x_34.size
      have z_32 := Ext.tr z_29 x_34
      have q_38 := B_36.lt
      refine st (new := [.int .i64 W.field.wide, .int .i64 W.field.high, .slice a1.P W.field.places.length a1.p, .slice a1.B W.bases.length a1.b, .slice a1.S W.stocks.length a1.s, .slice a1.M W.mines.length a1.m, .slice a1.T W.troops.length a1.t, .int .i64 W.next, .int .i64 W.now]) rfl rfl B_36 rfl GooQ_sz_goods_shop rfl rfl rfl fun w_39 m_40 B_36 => ?_
      have q_42 := m_40.size
      have z_39 := Ext.mod z_32 m_40 (by simp only [List.mem_singleton, forall_eq]; omega)
      have q_41 := m_40.size
      refine nl <| nT <| sq <| rg <| vl (as_ rfl) rfl <| nl <| nT <| sq <| sq <| rg <| vl (mv rfl) rfl <| vl (ln Try.underlying29 rfl) rfl <| vl (mv rfl) rfl <| nl <| nT <| bk <| ?_
      have HO := HO.later x_34
      have HO := HO.mod m_40 (fun q hq h => by have hb := List.mem_singleton.1 h; exfalso; (have := u_28 q hq; omega))
      have HS : Shop w_39 w_15.heap.size b_33 a1 W := ⟨B_36, HO, fun hq => by have := u_28 _ hq; omega, by omega⟩
      have B_12 := B_12.later (Ext.tr x_16 (Ext.tr x_30 x_34))
      have B_12 := B_12.mod m_40 (by simp only [List.mem_singleton]; omega)
      refine lp (fun mI EI wI => ∃ k : Nat, ∃ a2 : Wd.At, ∃ Ad : Option Addr, ∃ cd : Nat, EI = [(4, .pointer (some ⟨b_9, 0, none⟩)), (5, .slice none 0 0), (6, .int .i64 0), (8, .pointer (some ⟨b_33, 0, none⟩)), (9, .slice Ad ((W.deeds (l.take k)).2.length) cd), (25, .slice A l.length c), (26, .int .i64 (l.length : Int)), (27, .int .i64 (k : Int))] ∧ mI = l.length - k ∧ Ext w wI ∧ Blk wI b_9 [.int .i64 0, .int .i64 0, .slice none 0 0, .slice none 0 0, .slice none 0 0, .slice none 0 0, .slice none 0 0, .int .i64 0, .int .i64 0] 28 (0, 0) ∧ Shop wI w_15.heap.size b_33 a2 (W.deeds (l.take k)).1 ∧ repB.SOwn 4 1 wI w.heap.size (Rep.blkOf Ad) Ad cd (W.deeds (l.take k)).2 ∧ (k ≤ l.length) ∧ (∀ q ∈ Rep.blkOf Ad, q ≠ b_33 ∧ q ∉ WOwn.foot a2) ∧ (∀ q ∈ Rep.blkOf Ad, q = b_9 → False)) _ _ ⟨0, a1, none, 0, rfl, rfl, z_39, B_12, HS, (Rep.SOwn.nil _), by omega, fun q hq => by simp [Rep.blkOf] at hq, (fun q hq hb => by (simp [Rep.blkOf] at hq))⟩ (.cons rfl (.cons rfl (.cons rfl (.cons rfl (.cons rfl (.cons rfl (.cons rfl (.cons (loI rfl (by first | omega | rfl | (simp <;> omega))) .nil)))))))) ?_
      rintro m_45 E_46 w_44 ⟨k, a2, Ad, cd, rfl, rfl, z_44, B_12, HS, OD, hk, hd, d_43⟩
      have q_47 := z_44.size
      have q_48 := B_12.lt
      have u_49 := fun q hq => (OD.lt q hq).2
      have uS := fun q hq => (HS.own.lt q hq).2
      have hbS := HS.blk.lt
      have hle := hl.len_le
      have hdl : (W.deeds (l.take k)).2.length = k := by rw [deeds_len, List.length_take]; omega
      refine sq <| rg <| vl (blt rfl rfl) rfl <| nl <| nT <| sq <| ?_
      refine clt rfl (fun h_50 => ?_) (fun h_50 => ?_)
      · refine sk <| nT <| sq <| bk <| sq <| rg <| vl (iA k Try.underlying29 GooQ_sz_api_Deed rfl rfl ((hl.keep z_44).adr (Nat.zero_lt_of_lt (show k < _ from (by omega)))) rfl (by omega)) rfl <| vl (ld rfl (Rep.SHas.elt hcD (by rw [← (hl.keep z_44).adr (Nat.zero_lt_of_lt (show k < _ from (by omega)))]; exact (hl.keep z_44)) (get_d (l := l) (u := default) (by omega)) GooQ_ag_api_Deed GooQ_sz_api_Deed)) rfl <| al rfl GooQ_zv_api_Deed rfl rfl fun w_51 b_52 x_53 l_54 B_55 => ?_
        have q_56 := x_53.size
        have z_51 := Ext.tr z_44 x_53
        have q_57 := B_55.lt
        refine st (new := [.int .i64 ((l.getD k default).kind), .int .i64 ((l.getD k default).who), .int .i64 ((l.getD k default).spot.x), .int .i64 ((l.getD k default).spot.y), .int .i64 ((l.getD k default).what)]) rfl rfl B_55 rfl GooQ_sz_api_Deed rfl rfl rfl fun w_58 m_59 B_55 => ?_
        have q_61 := m_59.size
        have z_58 := Ext.mod z_51 m_59 (by simp only [List.mem_singleton, forall_eq]; omega)
        have q_60 := m_59.size
        refine nl <| nT <| rg <| vl (mv rfl) rfl <| vl (ld rfl (B_55.all GooQ_ag_api_Deed GooQ_sz_api_Deed)) rfl <| ?_
        have HS := HS.later x_53
        have HS := HS.mod m_59 (fun q hq => by rw [List.mem_singleton.1 hq]; exact ⟨by omega, fun hf => by have := uS _ hf; have := (HS.own.lt _ hf).1; omega⟩)
        have OD := OD.later x_53
        have OD := OD.mod m_59 (fun q hq h => by have hb := List.mem_singleton.1 h; exfalso; (have := u_49 q hq; omega))
        refine ca GooQ_en__P_goods_shop__deed rfl rfl ((deed2 (l.getD k default) _ w_15.heap.size b_33 a2 (W.deeds (l.take k)).1 HS (hG.deeds _)).mono ?_)
        rintro e w_62 ⟨a3, rfl, HS3, hf, x_63⟩
        refine ⟨_, rfl, ?_⟩
        have hu := fun q hq => (OD.lt q hq).2
        have q_64 := x_63.size
        have z_62 := Ext.mod z_58 x_63 (fun q hq => (List.mem_cons.1 hq).elim (fun h => by rw [h]; omega) (fun h => by have := (HS.own.lt q h).1; omega))
        have hd2 : ∀ q ∈ Rep.blkOf Ad, q ≠ b_33 ∧ q ∉ WOwn.foot a3 := fun q hq => ⟨(hd q hq).1, fun h => (hf q h).elim (hd q hq).2 (fun h => by have := hu q hq; omega)⟩
        have HS0 := HS
        have HS := HS3
        have uS := fun q hq => (HS.own.lt q hq).2
        refine bs (e := 4) (cs := [.bool (((W.deeds (l.take k)).1.deed (l.getD k default)).isSome)]) rfl (fun _ => by kernel_rfl) rfl fun w_65 b_66 x_67 l_68 B_69 => ?_
        have q_70 := x_67.size
        have z_65 := Ext.tr z_62 x_67
        have q_71 := B_69.lt
        have OD := OD.mod x_63 (fun q hq h => (List.mem_cons.1 h).elim (hd q hq).1 (hd q hq).2)
        have OD := OD.later x_67
        refine ap GooQ_el_S_bool Rep.flat_bare OD (Blk.has1 (R := repB) (by_ := 1) (q := ((W.deeds (l.take k)).1.deed (l.getD k default)).isSome) B_69 ⟨rfl, trivial⟩ (by decide)) rfl rfl (by simp only [List.length_cons, List.length_nil]; omega) (by simp only [List.length_cons, List.length_nil]; omega) z_65.size rfl fun w_72 A_73 c_74 m_75 O_76 g_77 n_78 => ?_
        have q_79 := m_75.size
        have z_72 := Ext.mod z_65 m_75 (fun q hq => (OD.lt q hq).1)
        have u_80 := fun q hq => (O_76.lt q hq).2
        have q_81 := m_75.size
        have hd3 : ∀ q ∈ Rep.blkOf A_73, q ≠ b_33 ∧ q ∉ WOwn.foot a3 := fun q hq => (g_77 q hq).elim (hd2 q) (fun h => ⟨by omega, fun hf => by have := uS q hf; omega⟩)
        refine vl (as_ rfl) rfl <| nl <| nB <| nT <| rg <| vl (bad rfl rfl (inI (by omega))) rfl <| vl (mv rfl) rfl <| nl <| ?_
        have B_12 := B_12.later x_53
        have B_12 := B_12.mod m_59 (by simp only [List.mem_singleton]; omega)
        have B_12 := B_12.mod x_63 (fun h => (List.mem_cons.1 h).elim (fun h => by omega) (fun h => by have := (HS0.own.lt _ h).1; omega))
        have B_12 := B_12.later x_67
        have B_12 := B_12.mod m_75 (fun hq => d_43 _ hq rfl)
        have HS := HS.later x_67
        have HS := HS.mod m_75 (fun q hq => hd2 q hq)
        exact nI _ _ ⟨k + 1, a3, A_73, c_74, rfl, rfl, z_72, B_12, (by rw [deeds_take (by omega : k < l.length)]; exact HS), (by rw [deeds_take (by omega : k < l.length)]; exact O_76), by omega, hd3, (fun q hq hb => by (exact Or.elim (g_77 q hq) (fun k_82 => by (exact d_43 q k_82 hb)) (fun k_82 => by omega)))⟩ (by omega) (.cons rfl (.cons rfl (.cons rfl (.cons rfl (.cons (by rw [deeds_take (by omega : k < l.length)]; rfl) (.cons rfl (.cons rfl (.cons (loI rfl (by first | omega | rfl | (simp <;> omega))) .nil))))))))
      · refine xt <| xT <| xK <| xB <| nT <| sq <| rg <| vl (fa GooQ_fd_goods_shop_0 rfl) rfl <| vl (ld rfl (HS.blk.all GooQ_ag_api_World GooQ_sz_api_World)) rfl <| vl (mv rfl) rfl <| st rfl rfl B_12 rfl GooQ_sz_api_World rfl rfl rfl fun w_83 m_84 B_12 => ?_
        have q_86 := m_84.size
        have z_83 := Ext.mod z_44 m_84 (by simp only [List.mem_singleton, forall_eq]; omega)
        have q_85 := m_84.size
        refine vl (as_ rfl) rfl <| vl (as_ rfl) rfl <| nl <| nT <| rt <| tR (.cell rfl (B_12.all GooQ_ag_api_World GooQ_sz_api_World) (.tmp rfl (.tmp rfl .nil))) <| ?_
        have HS := HS.mod m_84 (fun q hq => by rw [List.mem_singleton.1 hq]; exact ⟨by omega, fun hf => by have := uS _ hf; have := (HS.own.lt _ hf).1; omega⟩)
        have OD := OD.mod m_84 (fun q hq h => by have hb := List.mem_singleton.1 h; exfalso; (exact d_43 q hq hb))
        obtain rfl : k = l.length := by omega
        refine ⟨a2, Ad, cd, ?_, ?_, ?_, fun q hq => (hd q hq).2, z_83⟩
        · rw [do_ok1 h_18 (by omega), do_ok2 h_18 (by omega), do_ok3 h_18 (by omega), List.take_length]; rfl
        · rw [do_ok1 h_18 (by omega)]; rw [List.take_length] at HS; exact HS.own.down (by omega)
        · rw [do_ok2 h_18 (by omega)]; rw [List.take_length] at OD; exact OD
end Go.Proofs.Yticfnngppcmidaa
