/-
  GoodsRound. (Printed by bin/goodslaw4.py.)
-/
import Derived.Test.YticfnngppcmidaaLawP
set_option linter.unusedVariables false
namespace Go.Proofs.Yticfnngppcmidaa
open Go.RowKit

theorem LawE_en_mustkeep_small : Enters Try.prog 24 := en Try.func24 (by kernel_rfl) (by kernel_rfl)
theorem LawE_zv_api_World : Zv Try.prog 28 (.agg #[.int .i64 0, .int .i64 0, .slice none 0 0, .slice none 0 0, .slice none 0 0, .slice none 0 0, .slice none 0 0, .int .i64 0, .int .i64 0]) := fun _ => by kernel_rfl
theorem LawE_sz_api_World : Sz Try.prog 28 9 := fun _ => by kernel_rfl
theorem LawE_fd_api_World_0 : Fd Try.prog 28 0 0 := fun _ _ _ => by kernel_rfl
theorem LawE_fd_api_Field_0 : Fd Try.prog 24 0 0 := fun _ _ _ => by kernel_rfl
theorem LawE_sz_int : Sz Try.prog 3 1 := fun _ => by kernel_rfl
theorem LawE_fd_api_Field_2 : Fd Try.prog 24 2 2 := fun _ _ _ => by kernel_rfl
theorem LawE_sz_S_int : Sz Try.prog 22 1 := fun _ => by kernel_rfl
theorem LawE_fd_api_World_3 : Fd Try.prog 28 3 5 := fun _ _ _ => by kernel_rfl
theorem LawE_en_mustkeep_goodsLives : Enters Try.prog 16 := en Try.func16 (by kernel_rfl) (by kernel_rfl)
theorem LawE_ag_api_World : Ag Try.prog 28 true := fun _ => by kernel_rfl
theorem LawE_en_goods_Do : Enters Try.prog 15 := en Try.func15 (by kernel_rfl) (by kernel_rfl)
theorem LawE_en_slices_Equal_S_bool_bool_ : Enters Try.prog 22 := en Try.func22 (by kernel_rfl) (by kernel_rfl)
theorem LawE_fd_api_World_2 : Fd Try.prog 28 2 4 := fun _ _ _ => by kernel_rfl
theorem LawE_ag_S_int : Ag Try.prog 22 false := fun _ => by kernel_rfl
theorem LawE_ag_int : Ag Try.prog 3 false := fun _ => by kernel_rfl
theorem blk1 {q b o : Nat} (h : q ∈ Rep.blkOf (some ⟨b, o, none⟩)) : q = b := List.mem_singleton.1 h
theorem foot_newPM {a : Wd.At} {A B : Option Addr} {c d q : Nat} (h : q ∈ WOwn.foot { a with P := A, p := c, M := B, m := d }) : q ∈ WOwn.foot a ∨ q ∈ Rep.blkOf A ∨ q ∈ Rep.blkOf B := by
  rcases foot_mem.1 h with h | h | h | h | h
  · exact .inr (.inl h)
  · exact .inl (foot_B h)
  · exact .inl (foot_S h)
  · exact .inr (.inr h)
  · exact .inl (foot_T h)
theorem WOwn.newPM {w : World} {Z : Nat} {a : Wd.At} {W : Wd} {A B : Option Addr} {c d : Nat} {p m : List Int} (h : WOwn w Z a W) (hP : repI.SOwn 3 8 w Z (Rep.blkOf A) A c p) (hM : repI.SOwn 3 8 w Z (Rep.blkOf B) B d m)
    (h1 : ∀ q ∈ Rep.blkOf A, q ∈ WOwn.foot a → False) (h2 : ∀ q ∈ Rep.blkOf B, q ∈ WOwn.foot a → False) (h3 : ∀ q ∈ Rep.blkOf B, q ∈ Rep.blkOf A → False) :
    WOwn w Z { a with P := A, p := c, M := B, m := d } { W with field := { W.field with places := p }, mines := m } := by
  refine ⟨hP, h.B, h.S, hM, h.T, ?_, h.nums⟩
  have hn := h.apart
  have e1 := blk_nodup A
  have e2 := blk_nodup B
  have f1 : ∀ q ∈ Rep.blkOf A, (q ∈ Rep.blkOf a.B → False) ∧ (q ∈ Rep.blkOf a.S → False) ∧ (q ∈ Rep.blkOf a.T → False) := fun q hq => ⟨fun h => h1 q hq (foot_B h), fun h => h1 q hq (foot_S h), fun h => h1 q hq (foot_T h)⟩
  have f2 : ∀ q ∈ Rep.blkOf B, (q ∈ Rep.blkOf a.B → False) ∧ (q ∈ Rep.blkOf a.S → False) ∧ (q ∈ Rep.blkOf a.T → False) := fun q hq => ⟨fun h => h2 q hq (foot_B h), fun h => h2 q hq (foot_S h), fun h => h2 q hq (foot_T h)⟩
  simp only [List.nodup_append, List.mem_append] at hn ⊢
  grind
/-- The small world, a longer mine in it, and some of it brought in. -/
def roundW (k : Nat) : Wd := ⟨⟨3, 1, [0, 0, 3]⟩, [⟨0, 0⟩], [20 + (k : Int)], [0, 0, 30 - (k : Int)], [⟨1, 0, 1, ⟨1, 0⟩, 10, 0⟩], 2, 0⟩
def roundL : List Ded := [(⟨1, 1, ⟨2, 0⟩, 0⟩ : Ded), (⟨2, 1, ⟨0, 0⟩, 0⟩ : Ded)]
theorem round_step : ∀ k < 30, (roundW k).doE roundL = 0 ∧ (roundW k).doB roundL = [true, true] ∧ (roundW k).doW roundL = roundW (k + 1) := by decide +kernel
set_option maxRecDepth 100000 in
set_option maxHeartbeats 400000 in
theorem goodsRound_any (n : Int) (w : World) (hn : (Lit.int .i64 n).wf = true) :
    Calls Try.prog 5 #[.int .i64 n] w (fun e w' => e = .returned (.bool true) ∧ Ext w w') := by
  refine calls_W (n := 63) Try.func5 rfl rfl rfl ?_
  refine sq <| rg <| vl (as_ rfl) rfl <| nl <| nT <| sq <| rg <| ca LawE_en_mustkeep_small rfl rfl ((small_any _).mono ?_)
  rintro e w_4 ⟨a_1, rfl, HO_1, x_5⟩
  refine ⟨_, rfl, ?_⟩
  have q_6 := x_5.size
  have z_4 := Ext.tr (Ext.rf w) x_5
  have u_2 := fun q hq => (HO_1.lt q hq).2
  have lo_3 := fun q hq => (HO_1.lt q hq).1
  refine al rfl LawE_zv_api_World rfl rfl fun w_7 b_8 x_9 l_10 B_11 => ?_
  have q_12 := x_9.size
  have z_7 := Ext.tr z_4 x_9
  have q_13 := B_11.lt
  refine st rfl rfl B_11 rfl LawE_sz_api_World rfl rfl rfl fun w_14 m_15 B_11 => ?_
  have q_17 := m_15.size
  have z_14 := Ext.mod z_7 m_15 (by simp only [List.mem_singleton, forall_eq]; omega)
  have q_16 := m_15.size
  refine nl <| nT <| sq <| rg <| bs (e := 3) (cs := [.int .i64 0, .int .i64 0, .int .i64 3]) rfl (fun _ => by kernel_rfl) rfl fun w_18 b_19 x_20 l_21 B_22 => ?_
  have q_23 := x_20.size
  have z_18 := Ext.tr z_14 x_20
  have q_24 := B_22.lt
  refine bs (e := 3) (cs := [.int .i64 0, .int .i64 0, .int .i64 30]) rfl (fun _ => by kernel_rfl) rfl fun w_25 b_26 x_27 l_28 B_29 => ?_
  have q_30 := x_27.size
  have z_25 := Ext.tr z_18 x_27
  have q_31 := B_29.lt
  refine vl (fa LawE_fd_api_World_0 rfl) rfl <| vl (fa LawE_fd_api_Field_0 rfl) rfl <| ?_
  have B_11 := B_11.later (Ext.tr x_20 x_27)
  refine st (new := [.int .i64 3, .int .i64 smallW.field.high, .slice a_1.P smallW.field.places.length a_1.p, .slice a_1.B smallW.bases.length a_1.b, .slice a_1.S smallW.stocks.length a_1.s, .slice a_1.M smallW.mines.length a_1.m, .slice a_1.T smallW.troops.length a_1.t, .int .i64 smallW.next, .int .i64 smallW.now]) rfl rfl B_11 rfl LawE_sz_int rfl rfl rfl fun w_32 m_33 B_11 => ?_
  have q_35 := m_33.size
  have z_32 := Ext.mod z_25 m_33 (by simp only [List.mem_singleton, forall_eq]; omega)
  have q_34 := m_33.size
  refine vl (fa LawE_fd_api_World_0 rfl) rfl <| vl (fa LawE_fd_api_Field_2 rfl) rfl <| st (new := [.int .i64 3, .int .i64 smallW.field.high, .slice (some ⟨b_19, 0, none⟩) 3 3, .slice a_1.B smallW.bases.length a_1.b, .slice a_1.S smallW.stocks.length a_1.s, .slice a_1.M smallW.mines.length a_1.m, .slice a_1.T smallW.troops.length a_1.t, .int .i64 smallW.next, .int .i64 smallW.now]) rfl rfl B_11 rfl LawE_sz_S_int rfl rfl rfl fun w_36 m_37 B_11 => ?_
  have q_39 := m_37.size
  have z_36 := Ext.mod z_32 m_37 (by simp only [List.mem_singleton, forall_eq]; omega)
  have q_38 := m_37.size
  refine vl (fa LawE_fd_api_World_3 rfl) rfl <| st (new := [.int .i64 3, .int .i64 smallW.field.high, .slice (some ⟨b_19, 0, none⟩) 3 3, .slice a_1.B smallW.bases.length a_1.b, .slice a_1.S smallW.stocks.length a_1.s, .slice (some ⟨b_26, 0, none⟩) 3 3, .slice a_1.T smallW.troops.length a_1.t, .int .i64 smallW.next, .int .i64 smallW.now]) rfl rfl B_11 rfl LawE_sz_S_int rfl rfl rfl fun w_40 m_41 B_11 => ?_
  have q_43 := m_41.size
  have z_40 := Ext.mod z_36 m_41 (by simp only [List.mem_singleton, forall_eq]; omega)
  have q_42 := m_41.size
  refine nl <| nT <| sq <| sq <| rg <| ca LawE_en_mustkeep_goodsLives rfl rfl ((goodsLives_any _).mono ?_)
  rintro e w_44 ⟨rfl, x_45⟩
  refine ⟨_, rfl, ?_⟩
  have q_46 := x_45.size
  have z_44 := Ext.tr z_40 x_45
  refine vl (nt rfl) rfl <| vl (mv rfl) rfl <| vQ rfl rfl rfl rfl (fun hc => mv rfl) rfl <| vQ rfl rfl rfl rfl (fun hc => blt (gt hc rfl) rfl) rfl <| vl (pO rfl rfl rfl rfl) rfl <| vl (mv rfl) rfl <| vQ rfl rfl rfl rfl (fun hc => mv rfl) rfl <| vQ rfl rfl rfl rfl (fun hc => bgt (gt hc rfl) rfl) rfl <| vl (pO rfl rfl rfl rfl) rfl <| nl <| nT <| ?_
  refine cb rfl (fun h_47 => ?_) (fun h_47 => ?_)
  · simp only [Bool.or_eq_true, Bool.or_eq_false_iff, Bool.and_eq_true, Bool.and_eq_false_iff, decide_eq_true_eq, decide_eq_false_iff_not, beq_iff_eq, bne_iff_ne, beq_eq_false_iff_ne, bne_eq_false_iff_eq, Bool.not_eq_true', Bool.not_eq_false', Bool.not_eq_true, Bool.not_eq_false, Int.not_lt, Int.not_le, Nat.not_lt, Nat.not_le, ne_eq, Classical.not_not] at h_47
    refine sq <| rg <| ca LawE_en_mustkeep_goodsLives rfl rfl ((goodsLives_any _).mono ?_)
    rintro e w_48 ⟨rfl, x_49⟩
    refine ⟨_, rfl, ?_⟩
    have q_50 := x_49.size
    have z_48 := Ext.tr z_44 x_49
    refine vl (as_ rfl) rfl <| nl <| nT <| rt <| tT <| tR (.tmp rfl .nil) <| ?_
    exact ⟨rfl, z_48⟩
  · simp only [Bool.or_eq_true, Bool.or_eq_false_iff, Bool.and_eq_true, Bool.and_eq_false_iff, decide_eq_true_eq, decide_eq_false_iff_not, beq_iff_eq, bne_iff_ne, beq_eq_false_iff_ne, bne_eq_false_iff_eq, Bool.not_eq_true', Bool.not_eq_false', Bool.not_eq_true, Bool.not_eq_false, Int.not_lt, Int.not_le, Nat.not_lt, Nat.not_le, ne_eq, Classical.not_not] at h_47
    refine sk <| nT <| sq <| sq <| rg <| vl (mv rfl) rfl <| vl (mv rfl) rfl <| nl <| nT <| bk <| ?_
    have HO_1 := HO_1.later x_9
    have HO_1 := HO_1.mod m_15 (fun q hq h => by have hb := List.mem_singleton.1 h; exfalso; (have := u_2 q hq; omega))
    have HO_1 := HO_1.later (Ext.tr x_20 x_27)
    have HO_1 := HO_1.mod m_33 (fun q hq h => by have hb := List.mem_singleton.1 h; exfalso; (have := u_2 q hq; omega))
    have HO_1 := HO_1.mod m_37 (fun q hq h => by have hb := List.mem_singleton.1 h; exfalso; (have := u_2 q hq; omega))
    have HO_1 := HO_1.mod m_41 (fun q hq h => by have hb := List.mem_singleton.1 h; exfalso; (have := u_2 q hq; omega))
    have HO_1 := HO_1.later x_45
    have B_22 := B_22.later x_27
    have B_22 := B_22.mod m_33 (by simp only [List.mem_singleton]; omega)
    have B_22 := B_22.mod m_37 (by simp only [List.mem_singleton]; omega)
    have B_22 := B_22.mod m_41 (by simp only [List.mem_singleton]; omega)
    have B_22 := B_22.later x_45
    have B_29 := B_29.mod m_33 (by simp only [List.mem_singleton]; omega)
    have B_29 := B_29.mod m_37 (by simp only [List.mem_singleton]; omega)
    have B_29 := B_29.mod m_41 (by simp only [List.mem_singleton]; omega)
    have B_29 := B_29.later x_45
    have B_11 := B_11.later x_45
    have hR := WOwn.newPM (w := w_44) HO_1 (Blk.ownN (R := repI) (by_ := 8) (B := w.heap.size) (k := [0, 0, 3]) B_22 [[.int .i64 0], [.int .i64 0], [.int .i64 3]] rfl ⟨⟨rfl, okI_iff.2 (by decide)⟩, ⟨rfl, okI_iff.2 (by decide)⟩, ⟨rfl, okI_iff.2 (by decide)⟩, trivial⟩ (by simp) (by simp) (by decide) (by omega)) (Blk.ownN (R := repI) (by_ := 8) (B := w.heap.size) (k := [0, 0, 30]) B_29 [[.int .i64 0], [.int .i64 0], [.int .i64 30]] rfl ⟨⟨rfl, okI_iff.2 (by decide)⟩, ⟨rfl, okI_iff.2 (by decide)⟩, ⟨rfl, okI_iff.2 (by decide)⟩, trivial⟩ (by simp) (by simp) (by decide) (by omega)) (fun q hq hf => by have := blk1 hq; have := u_2 q hf; omega) (fun q hq hf => by have := blk1 hq; have := u_2 q hf; omega) (fun q hq hp => by have := blk1 hq; have := blk1 hp; omega)
    refine lp (fun mI EI wI => ∃ k : Nat, ∃ ar : Wd.At, EI = [(0, .int .i64 n), (3, .pointer (some ⟨b_8, 0, none⟩)), (25, .int .i64 n), (26, .int .i64 (k : Int))] ∧ mI = n.toNat - k ∧ Ext w wI ∧ WOwn wI w.heap.size ar (roundW k) ∧ Blk wI b_8 ((Wd.cells ar (roundW k))) 28 (0, 0) ∧ ((k : Int) ≤ n) ∧ (∀ q ∈ WOwn.foot ar, q = b_8 → False)) _ _ ⟨0, ({ a_1 with P := some ⟨b_19, 0, none⟩, p := 3, M := some ⟨b_26, 0, none⟩, m := 3 } : Wd.At), rfl, rfl, z_44, hR, B_11, by omega, (fun q hq e => (foot_newPM hq).elim (fun h => by have := u_2 q h; omega) (fun h => h.elim (fun h => by have := blk1 h; omega) (fun h => by have := blk1 h; omega)))⟩ (.cons rfl (.cons rfl (.cons rfl (.cons (loI rfl (by first | omega | rfl | (simp <;> omega))) .nil)))) ?_
    rintro m_54 E_55 w_53 ⟨k, ar, rfl, rfl, z_53, HR, BR, hk, hdb⟩
    have q_56 := z_53.size
    have u_57 := fun q hq => (HR.lt q hq).2
    have q_58 := BR.lt
    have u_59 := fun q hq => (HR.lt q hq).2
    have lo_60 := fun q hq => (HR.lt q hq).1
    refine sq <| rg <| vl (blt rfl rfl) rfl <| nl <| nT <| sq <| ?_
    refine clt rfl (fun h_61 => ?_) (fun h_61 => ?_)
    · obtain ⟨hs1, hs2, hs3⟩ := round_step k (by omega)
      have kE : ((roundW k).doE ([(⟨1, 1, ⟨2, 0⟩, 0⟩ : Ded), (⟨2, 1, ⟨0, 0⟩, 0⟩ : Ded)]) != 0) = false := by rw [show (roundW k).doE ([(⟨1, 1, ⟨2, 0⟩, 0⟩ : Ded), (⟨2, 1, ⟨0, 0⟩, 0⟩ : Ded)]) = 0 from hs1]; rfl
      have kB : (!decide ((roundW k).doB ([(⟨1, 1, ⟨2, 0⟩, 0⟩ : Ded), (⟨2, 1, ⟨0, 0⟩, 0⟩ : Ded)]) = [true, true])) = false := by rw [decide_eq_true (show (roundW k).doB ([(⟨1, 1, ⟨2, 0⟩, 0⟩ : Ded), (⟨2, 1, ⟨0, 0⟩, 0⟩ : Ded)]) = [true, true] from hs2)]; rfl
      refine sk <| nT <| sq <| bk <| sq <| rg <| vl (as_ rfl) rfl <| nl <| nT <| sq <| rg <| vl (as_ rfl) rfl <| nl <| nT <| sq <| rg <| vl (ld rfl (BR.all LawE_ag_api_World LawE_sz_api_World)) rfl <| vl (v := .agg #[.int .i64 2, .int .i64 0]) (bd rfl (by kernel_rfl)) rfl <| vl (v := .agg #[.int .i64 1, .int .i64 1, .int .i64 2, .int .i64 0, .int .i64 0]) (bd rfl (by kernel_rfl)) rfl <| vl (v := .agg #[.int .i64 2, .int .i64 1, .int .i64 0, .int .i64 0, .int .i64 0]) (bd rfl (by kernel_rfl)) rfl <| bs (e := 45) (cs := [.int .i64 1, .int .i64 1, .int .i64 2, .int .i64 0, .int .i64 0, .int .i64 2, .int .i64 1, .int .i64 0, .int .i64 0, .int .i64 0]) rfl (fun _ => by kernel_rfl) rfl fun w_62 b_63 x_64 l_65 B_66 => ?_
      have q_67 := x_64.size
      have z_62 := Ext.tr z_53 x_64
      have q_68 := B_66.lt
      have HR := HR.later x_64
      refine ca LawE_en_goods_Do rfl rfl ((do_any ([(⟨1, 1, ⟨2, 0⟩, 0⟩ : Ded), (⟨2, 1, ⟨0, 0⟩, 0⟩ : Ded)]) _ _ _ ar (roundW k) HR.has (Blk.hasN (R := Ded.rep) (by_ := 40) (k := [(⟨1, 1, ⟨2, 0⟩, 0⟩ : Ded), (⟨2, 1, ⟨0, 0⟩, 0⟩ : Ded)]) B_66 [[.int .i64 1, .int .i64 1, .int .i64 2, .int .i64 0, .int .i64 0], [.int .i64 2, .int .i64 1, .int .i64 0, .int .i64 0, .int .i64 0]] rfl (⟨⟨rfl, ⟨okI_iff.2 (by (try dsimp only); omega), okI_iff.2 (by (try dsimp only); omega), okI_iff.2 (by (try dsimp only); omega), okI_iff.2 (by (try dsimp only); omega), okI_iff.2 (by (try dsimp only); omega)⟩⟩, ⟨⟨rfl, ⟨okI_iff.2 (by (try dsimp only); omega), okI_iff.2 (by (try dsimp only); omega), okI_iff.2 (by (try dsimp only); omega), okI_iff.2 (by (try dsimp only); omega), okI_iff.2 (by (try dsimp only); omega)⟩⟩, trivial⟩⟩) (by simp) (by simp))).mono ?_)
      rintro e w_74 ⟨a_69, A_69, c_69, rfl, HO_69, OD_69, hd_69, x_75⟩
      refine ⟨_, rfl, ?_⟩
      have q_76 := x_75.size
      have z_74 := Ext.tr z_62 x_75
      have u_70 := fun q hq => (HO_69.lt q hq).2
      have lo_71 := fun q hq => (HO_69.lt q hq).1
      have u_72 := fun q hq => (OD_69.lt q hq).2
      have lo_73 := fun q hq => (OD_69.lt q hq).1
      have dd_69 : ∀ q ∈ Rep.blkOf A_69, q ∈ WOwn.foot a_69 → False := hd_69
      have dw_69 : ∀ q ∈ WOwn.foot a_69, q ∈ Rep.blkOf A_69 → False := fun q h1 h2 => hd_69 q h2 h1
      refine vl (mv rfl) rfl <| vl (ex rfl rfl) rfl <| vl (ex rfl rfl) rfl <| vl (ex rfl rfl) rfl <| ?_
      have BR := BR.later (Ext.tr x_64 x_75)
      refine st rfl rfl BR rfl LawE_sz_api_World rfl rfl rfl fun w_77 m_78 BR => ?_
      have q_80 := m_78.size
      have z_77 := Ext.mod z_74 m_78 (by simp only [List.mem_singleton, forall_eq]; omega)
      have q_79 := m_78.size
      refine vl (as_ rfl) rfl <| vl (as_ rfl) rfl <| nl <| nT <| sq <| rg <| vl (mv rfl) rfl <| vl (bne rfl rfl) rfl <| vl (mv (evb rfl kE)) rfl <| ug rfl rfl rfl <| vl (mv rfl) rfl <| ug rfl rfl rfl <| bs (e := 4) (cs := [.bool true, .bool true]) rfl (fun _ => by kernel_rfl) rfl fun w_81 b_82 x_83 l_84 B_85 => ?_
      have q_86 := x_83.size
      have z_81 := Ext.tr z_77 x_83
      have q_87 := B_85.lt
      refine ug rfl rfl rfl <| ?_
      have OD_69 := OD_69.mod m_78 (fun q hq h => by have hb := List.mem_singleton.1 h; exfalso; (have := lo_73 q hq; omega))
      have OD_69 := OD_69.later x_83
      refine ca LawE_en_slices_Equal_S_bool_bool_ rfl rfl ((equal_B _ _ _ _ _ _ ((roundW k).doB ([(⟨1, 1, ⟨2, 0⟩, 0⟩ : Ded), (⟨2, 1, ⟨0, 0⟩, 0⟩ : Ded)])) ([true, true]) _ OD_69.has (Blk.hasN (R := repB) (by_ := 1) (k := [true, true]) B_85 [[.bool true], [.bool true]] rfl (⟨⟨rfl, trivial⟩, ⟨⟨rfl, trivial⟩, trivial⟩⟩) (by simp) (by simp))).mono ?_)
      rintro e w_88 ⟨rfl, x_89⟩
      refine ⟨_, rfl, ?_⟩
      have q_90 := x_89.size
      have z_88 := Ext.tr z_81 x_89
      refine ug rfl rfl rfl <| vl (nt rfl) rfl <| vl (pkF rfl (evb rfl kB)) rfl <| nl <| nT <| cF rfl <| sk <| nB <| nT <| rg <| vl (bad rfl rfl (inI (by omega))) rfl <| vl (mv rfl) rfl <| nl <| ?_
      have HO_69 := HO_69.mod m_78 (fun q hq h => by have hb := List.mem_singleton.1 h; exfalso; (have := lo_71 q hq; omega))
      have HO_69 := HO_69.later (Ext.tr x_83 x_89)
      have HR := HR.later x_75
      have HR := HR.mod m_78 (fun q hq h => by have hb := List.mem_singleton.1 h; exfalso; (exact hdb q hq hb))
      have HR := HR.later (Ext.tr x_83 x_89)
      have BR := BR.later (Ext.tr x_83 x_89)
      exact nI _ _ ⟨k + 1, a_69, rfl, rfl, z_88, ((by rw [← hs3]; exact HO_69 : WOwn w_88 _ a_69 (roundW (k + 1))).down (by omega)), (by rw [← hs3]; exact BR), by omega, (fun q hq e => by have := lo_71 q hq; omega)⟩ (by omega) (.cons rfl (.cons rfl (.cons rfl (.cons (loI rfl (by first | omega | rfl | (simp <;> omega))) .nil))))
    · refine xt <| xT <| xK <| xB <| nT <| sq <| rg <| vl (fa LawE_fd_api_World_2 rfl) rfl <| vl (ld rfl (BR.one LawE_ag_S_int rfl)) rfl <| vl (iA 0 Try.underlying22 LawE_sz_int rfl rfl (HR.S.has.adr (Nat.zero_lt_of_lt (show 0 < _ from (show 0 < ((roundW k).stocks).length by simp [roundW])))) rfl (show 0 < ((roundW k).stocks).length by simp [roundW])) rfl <| vl (ld rfl (Rep.SHas.one' hcI (HR.S.has.adh (Nat.zero_lt_of_lt (show 0 < _ from (show 0 < ((roundW k).stocks).length by simp [roundW])))) (get_d (l := (roundW k).stocks) (u := 0) (show 0 < ((roundW k).stocks).length by simp [roundW])) rfl LawE_ag_int)) rfl <| vl (mv rfl) rfl <| vl (bad rfl rfl (inI (by omega))) rfl <| vl (beq rfl rfl) rfl <| vl (mv rfl) rfl <| vQ rfl rfl rfl rfl (fun hc => fa LawE_fd_api_World_3 rfl) rfl <| vQ rfl rfl rfl rfl (fun hc => ld (gt hc rfl) (BR.one LawE_ag_S_int rfl)) rfl <| vQ rfl rfl rfl rfl (fun hc => iA 2 Try.underlying22 LawE_sz_int (gt hc rfl) rfl (HR.M.has.adr (Nat.zero_lt_of_lt (show 2 < _ from (show 2 < ((roundW k).mines).length by simp [roundW])))) rfl (show 2 < ((roundW k).mines).length by simp [roundW])) rfl <| vQ rfl rfl rfl rfl (fun hc => ld (gt hc rfl) (Rep.SHas.one' hcI (HR.M.has.adh (Nat.zero_lt_of_lt (show 2 < _ from (show 2 < ((roundW k).mines).length by simp [roundW])))) (get_d (l := (roundW k).mines) (u := 0) (show 2 < ((roundW k).mines).length by simp [roundW])) rfl LawE_ag_int)) rfl <| vQ rfl rfl rfl rfl (fun hc => mv rfl) rfl <| vQ rfl rfl rfl rfl (fun hc => bsu rfl (gt hc rfl) (inI (by (try simp only [Bool.or_eq_true, Bool.or_eq_false_iff, Bool.and_eq_true, Bool.and_eq_false_iff, decide_eq_true_eq, decide_eq_false_iff_not, beq_iff_eq, bne_iff_ne, beq_eq_false_iff_ne, bne_eq_false_iff_eq, Bool.not_eq_true', Bool.not_eq_false', Bool.not_eq_true, Bool.not_eq_false, Int.not_lt, Int.not_le, Nat.not_lt, Nat.not_le, ne_eq, Classical.not_not] at hc); omega))) rfl <| vQ rfl rfl rfl rfl (fun hc => beq (gt hc rfl) (gt hc rfl)) rfl <| vl (pA rfl rfl rfl rfl) rfl <| vl (as_ rfl) rfl <| ?_
      refine nl <| nT <| rt <| tR (.tmp rfl .nil) <| ?_
      obtain rfl : n = (k : Int) := by omega
      exact ⟨ret_true (by simp [roundW]), z_53⟩
end Go.Proofs.Yticfnngppcmidaa
