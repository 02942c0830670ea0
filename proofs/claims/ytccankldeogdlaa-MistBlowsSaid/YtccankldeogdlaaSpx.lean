import Derived.Test.YtccankldeogdlaaGolC
import Derived.Test.YtccankldeogdlaaOdr
import Derived.Test.YtccankldeogdlaaLinG
import Derived.Test.YtccankldeogdlaaMrP
import Derived.Test.YtccankldeogdlaaHitG
import Derived.Test.YtccankldeogdlaaGooL
import Derived.Test.YtccankldeogdlaaMis
import Derived.Test.YtccankldeogdlaaHp
set_option linter.unusedVariables false
set_option linter.unusedSimpArgs false
set_option maxRecDepth 100000
set_option maxHeartbeats 4000000
namespace Go.Proofs.Ytccankldeogdlaa
section
open Go.RowKit
theorem Ords_eqs_api_Order : EqS Try.prog Odr.cells 72 := by
 intro a b w
 obtain ⟨a0, a1, a2, ⟨a3, a4⟩, a5⟩ := a
 obtain ⟨b0, b1, b2, ⟨b3, b4⟩, b5⟩ := b
 simp only [Odr.cells, Odr.mk.injEq, Cel.mk.injEq]
 constructor
 ·go_simp
  repeat' split
  all_goals simp_all
 ·go_simp
  repeat' split
  all_goals simp_all
theorem Ords_eqg_api_Order : (Try.prog).eqGuardType (Try.prog).depth 72 = false := by kernel_rfl
theorem hcO {w : World} {cs : List Value} {a : Odr} (h : Odr.rep.has w cs a) : cs = a.cells := And.left (show cs = a.cells ∧ a.ok from h)
def Odr.bare (o : Odr) : Odr := ⟨o.by_, o.kind, if o.kind = 5 then 0 else o.who, if o.kind ≠ 2 ∧ o.kind ≠ 3 then ⟨0, 0⟩ else o.spot, if o.kind ≠ 1 ∧ o.kind ≠ 5 then 0 else o.what⟩
def Odr.outR (o : Odr) : Bool := !inB o.by_ 0 7 || !inB o.kind 1 5 || !inB o.who 0 1000000 || !inB o.spot.x (-1000) 1000 || !inB o.spot.y (-1000) 1000 || !inB o.what 0 1000000
def Odr.chk (o : Odr) : Int := if o.outR = true then 1 else if (!decide (o.bare = o)) = true then 4 else 0
theorem Odr.chk_arg {o : Odr} (h : o.outR = true) : o.chk = 1 := by unfold Odr.chk; rw [if_pos h]
theorem Odr.chk_form {o : Odr} (h : o.outR = false) (h2 : (!decide (o.bare = o)) = true) : o.chk = 4 := by unfold Odr.chk; rw [if_neg (by rw [h]; decide), if_pos h2]
theorem Odr.chk_good {o : Odr} (h : o.outR = false) (h2 : (!decide (o.bare = o)) = false) : o.chk = 0 := by unfold Odr.chk; rw [if_neg (by rw [h]; decide), if_neg (by rw [h2]; decide)]
def ordsE (l : List Odr) : Int := if 100 < l.length then 2 else match l.find? (λ o => o.chk != 0) with | some o => o.chk | none => 0
theorem ordsE_large {l : List Odr} (h : 100 < l.length) : ordsE l = 2 := by unfold ordsE; rw [if_pos h]
theorem ordsE_ok {l : List Odr} (h : l.length ≤ 100) (hg : ∀ i, i < l.length → (l.getD i default).chk = 0) : ordsE l = 0 := by
 unfold ordsE; rw [if_neg (by omega)]
 have : l.find? (λ o => o.chk != 0) = none := List.find?_eq_none.2 λ x hx => by
  obtain ⟨i, hi, rfl⟩ := List.mem_iff_getElem.1 hx
  have := hg i hi
  rw [getD_dd hi] at this; simp [this]
 rw [this]
theorem ordsE_at {l : List Odr} {k : Nat} (h : l.length ≤ 100) (hk : k < l.length) (hg : ∀ i, i < k → (l.getD i default).chk = 0) (hb : ¬ (l.getD k default).chk = 0) : ordsE l = (l.getD k default).chk := by
 unfold ordsE; rw [if_neg (by omega)]
 have : l.find? (λ o => o.chk != 0) = some (l.getD k default) := by
  rw [List.find?_eq_some_iff_getElem]
  refine ⟨by simpa using hb, k, hk, (getD_dd hk).symm, λ j hj => ?_⟩
  have := hg j hj
  rw [getD_dd (by omega)] at this; simp [this]
 rw [this]
theorem owithin_any (n lo hi : Int) (w : World) :
  Calls Try.prog 152 #[.int .i64 n, .int .i64 lo, .int .i64 hi] w (λ e w' => e = .returned (.bool (inB n lo hi)) ∧ Ext w w') := by
 refine calls_W (n := 15) Try.func152 rfl rfl rfl ?_
 refine sg <| va rfl <| nK <| sg <| vm rfl <| vm rfl <| vL (bge rfl rfl) <| vm rfl <| vQ rfl rfl rfl rfl (λ hc => mv rfl) rfl <| vQ rfl rfl rfl rfl (λ hc => mv rfl) rfl <| vQ rfl rfl rfl rfl (λ hc => ble (gt hc rfl) (gt hc rfl)) rfl <| vL (pA rfl rfl rfl rfl) <| va rfl <| nK <| rt <| tR (.tmp rfl .nil) <| ?_
 exact ⟨rfl, (Ext.rf w)⟩
theorem obare_any (o : Odr) (w : World) :
  Calls Try.prog 153 #[.agg #[.int .i64 o.by_, .int .i64 o.kind, .int .i64 o.who, .int .i64 o.spot.x, .int .i64 o.spot.y, .int .i64 o.what]] w (λ e w' => e = .returned (.agg (Odr.bare o).cells.toArray) ∧ Ext w w') := by
 refine calls_W (n := 27) Try.func153 rfl rfl rfl ?_
 refine sg <| bx rfl rfl rfl rfl λ w_1 b_2 x_3 l_4 B_5 => ?_
 have := x_3.size
 have z_1 := eT (Ext.rf w) x_3
 have q_7 := B_5.lt
 refine al rfl eF147 rfl rfl λ w_8 b_9 x_10 l_11 B_12 => ?_
 have := x_10.size
 have z_8 := eT z_1 x_10
 have q_14 := B_12.lt
 refine nK <| sq <| sg <| vL (fa eF148 rfl) <| ?_
 have B_5 := B_5.later x_10
 refine vL (ld rfl (B_5.one eF5 rfl)) <| vL (beq rfl rfl) <| nK <| ?_
 refine ceq rfl (λ h_15 => ?_) (λ h_15 => ?_)
 ·refine rg <| vL (fa eF149 rfl) <| st (new := [.int .i64 o.by_, .int .i64 o.kind, .int .i64 0, .int .i64 o.spot.x, .int .i64 o.spot.y, .int .i64 o.what]) rfl rfl B_5 rfl eF11 rfl rfl rfl λ w_16 m_17 B_5 => ?_
  have := m_17.size
  have z_16 := Ext.mod z_8 m_17 (ge1 (by omega))
  have := m_17.size
  refine nK <| sq <| sg <| vL (fa eF148 rfl) <| vL (ld rfl (B_5.one eF5 rfl)) <| vL (bne rfl rfl) <| vm rfl <| vQ rfl rfl rfl rfl (λ hc => fa eF148 rfl) rfl <| vQ rfl rfl rfl rfl (λ hc => ld (gt hc rfl) (B_5.one eF5 rfl)) rfl <| vQ rfl rfl rfl rfl (λ hc => bne (gt hc rfl) rfl) rfl <| vL (pA rfl rfl rfl rfl) <| nK <| ?_
  refine cb rfl (λ h_20 => ?_) (λ h_20 => ?_)
  ·simp only [bS] at h_20
   refine rg <| vL (v := .agg #[.int .i64 0, .int .i64 0]) (bd rfl (by kernel_rfl)) <| vL (fa eF150 rfl) <| st (new := [.int .i64 o.by_, .int .i64 o.kind, .int .i64 0, .int .i64 0, .int .i64 0, .int .i64 o.what]) rfl rfl B_5 rfl eF8 rfl rfl rfl λ w_21 m_22 B_5 => ?_
   have := m_22.size
   have z_21 := Ext.mod z_16 m_22 (ge1 (by omega))
   have := m_22.size
   refine nK <| sq <| sg <| vL (fa eF148 rfl) <| vL (ld rfl (B_5.one eF5 rfl)) <| vL (bne rfl rfl) <| vm rfl <| vQ rfl rfl rfl rfl (λ hc => fa eF148 rfl) rfl <| vQ rfl rfl rfl rfl (λ hc => ld (gt hc rfl) (B_5.one eF5 rfl)) rfl <| vQ rfl rfl rfl rfl (λ hc => bne (gt hc rfl) rfl) rfl <| vL (pA rfl rfl rfl rfl) <| nK <| ?_
   refine cb rfl (λ h_25 => ?_) (λ h_25 => ?_)
   ·simp only [bS] at h_25
    refine rg <| vL (fa eF151 rfl) <| st (new := [.int .i64 o.by_, .int .i64 o.kind, .int .i64 0, .int .i64 0, .int .i64 0, .int .i64 0]) rfl rfl B_5 rfl eF11 rfl rfl rfl λ w_26 m_27 B_5 => ?_
    have := m_27.size
    have z_26 := Ext.mod z_21 m_27 (ge1 (by omega))
    have := m_27.size
    refine nK <| sg <| vL (ld rfl (B_5.all eF152 eF153)) <| ?_
    have B_12 := B_12.mod m_17 (nm1 (by omega))
    have B_12 := B_12.mod m_22 (nm1 (by omega))
    have B_12 := B_12.mod m_27 (nm1 (by omega))
    refine st (new := [.int .i64 o.by_, .int .i64 o.kind, .int .i64 0, .int .i64 0, .int .i64 0, .int .i64 0]) rfl rfl B_12 rfl eF153 rfl rfl rfl λ w_30 m_31 B_12 => ?_
    have := m_31.size
    have z_30 := Ext.mod z_26 m_31 (ge1 (by omega))
    have := m_31.size
    refine nK <| rt <| tR (.cell rfl (B_12.all eF152 eF153) .nil) <| ?_
    exact ⟨by rw [show Odr.bare o = (⟨o.by_, o.kind, 0, ⟨0, 0⟩, 0⟩ : Odr) from by unfold Odr.bare; congr 1 <;> (first | rfl | (split <;> first | rfl | omega))]; rfl, z_30⟩
   ·simp only [bS] at h_25
    refine sK <| sg <| vL (ld rfl (B_5.all eF152 eF153)) <| ?_
    have B_12 := B_12.mod m_17 (nm1 (by omega))
    have B_12 := B_12.mod m_22 (nm1 (by omega))
    refine st (new := [.int .i64 o.by_, .int .i64 o.kind, .int .i64 0, .int .i64 0, .int .i64 0, .int .i64 o.what]) rfl rfl B_12 rfl eF153 rfl rfl rfl λ w_34 m_35 B_12 => ?_
    have := m_35.size
    have z_34 := Ext.mod z_21 m_35 (ge1 (by omega))
    have := m_35.size
    refine nK <| rt <| tR (.cell rfl (B_12.all eF152 eF153) .nil) <| ?_
    exact ⟨by rw [show Odr.bare o = (⟨o.by_, o.kind, 0, ⟨0, 0⟩, o.what⟩ : Odr) from by unfold Odr.bare; congr 1 <;> (first | rfl | (split <;> first | rfl | omega))]; rfl, z_34⟩
  ·simp only [bS] at h_20
   refine sK <| sq <| sg <| vL (fa eF148 rfl) <| vL (ld rfl (B_5.one eF5 rfl)) <| vL (bne rfl rfl) <| vm rfl <| vQ rfl rfl rfl rfl (λ hc => fa eF148 rfl) rfl <| vQ rfl rfl rfl rfl (λ hc => ld (gt hc rfl) (B_5.one eF5 rfl)) rfl <| vQ rfl rfl rfl rfl (λ hc => bne (gt hc rfl) rfl) rfl <| vL (pA rfl rfl rfl rfl) <| nK <| ?_
   refine cb rfl (λ h_38 => ?_) (λ h_38 => ?_)
   ·simp only [bS] at h_38
    refine rg <| vL (fa eF151 rfl) <| st (new := [.int .i64 o.by_, .int .i64 o.kind, .int .i64 0, .int .i64 o.spot.x, .int .i64 o.spot.y, .int .i64 0]) rfl rfl B_5 rfl eF11 rfl rfl rfl λ w_39 m_40 B_5 => ?_
    have := m_40.size
    have z_39 := Ext.mod z_16 m_40 (ge1 (by omega))
    have := m_40.size
    refine nK <| sg <| vL (ld rfl (B_5.all eF152 eF153)) <| ?_
    have B_12 := B_12.mod m_17 (nm1 (by omega))
    have B_12 := B_12.mod m_40 (nm1 (by omega))
    refine st (new := [.int .i64 o.by_, .int .i64 o.kind, .int .i64 0, .int .i64 o.spot.x, .int .i64 o.spot.y, .int .i64 0]) rfl rfl B_12 rfl eF153 rfl rfl rfl λ w_43 m_44 B_12 => ?_
    have := m_44.size
    have z_43 := Ext.mod z_39 m_44 (ge1 (by omega))
    have := m_44.size
    refine nK <| rt <| tR (.cell rfl (B_12.all eF152 eF153) .nil) <| ?_
    exact ⟨by rw [show Odr.bare o = (⟨o.by_, o.kind, 0, ⟨o.spot.x, o.spot.y⟩, 0⟩ : Odr) from by unfold Odr.bare; congr 1 <;> (first | rfl | (split <;> first | rfl | omega))]; rfl, z_43⟩
   ·simp only [bS] at h_38
    refine sK <| sg <| vL (ld rfl (B_5.all eF152 eF153)) <| ?_
    have B_12 := B_12.mod m_17 (nm1 (by omega))
    refine st (new := [.int .i64 o.by_, .int .i64 o.kind, .int .i64 0, .int .i64 o.spot.x, .int .i64 o.spot.y, .int .i64 o.what]) rfl rfl B_12 rfl eF153 rfl rfl rfl λ w_47 m_48 B_12 => ?_
    have := m_48.size
    have z_47 := Ext.mod z_16 m_48 (ge1 (by omega))
    have := m_48.size
    refine nK <| rt <| tR (.cell rfl (B_12.all eF152 eF153) .nil) <| ?_
    exact ⟨by rw [show Odr.bare o = (⟨o.by_, o.kind, 0, ⟨o.spot.x, o.spot.y⟩, o.what⟩ : Odr) from by unfold Odr.bare; congr 1 <;> (first | rfl | (split <;> first | rfl | omega))]; rfl, z_47⟩
 ·refine sK <| sq <| sg <| vL (fa eF148 rfl) <| vL (ld rfl (B_5.one eF5 rfl)) <| vL (bne rfl rfl) <| vm rfl <| vQ rfl rfl rfl rfl (λ hc => fa eF148 rfl) rfl <| vQ rfl rfl rfl rfl (λ hc => ld (gt hc rfl) (B_5.one eF5 rfl)) rfl <| vQ rfl rfl rfl rfl (λ hc => bne (gt hc rfl) rfl) rfl <| vL (pA rfl rfl rfl rfl) <| nK <| ?_
  refine cb rfl (λ h_51 => ?_) (λ h_51 => ?_)
  ·simp only [bS] at h_51
   refine rg <| vL (v := .agg #[.int .i64 0, .int .i64 0]) (bd rfl (by kernel_rfl)) <| vL (fa eF150 rfl) <| st (new := [.int .i64 o.by_, .int .i64 o.kind, .int .i64 o.who, .int .i64 0, .int .i64 0, .int .i64 o.what]) rfl rfl B_5 rfl eF8 rfl rfl rfl λ w_52 m_53 B_5 => ?_
   have := m_53.size
   have z_52 := Ext.mod z_8 m_53 (ge1 (by omega))
   have := m_53.size
   refine nK <| sq <| sg <| vL (fa eF148 rfl) <| vL (ld rfl (B_5.one eF5 rfl)) <| vL (bne rfl rfl) <| vm rfl <| vQ rfl rfl rfl rfl (λ hc => fa eF148 rfl) rfl <| vQ rfl rfl rfl rfl (λ hc => ld (gt hc rfl) (B_5.one eF5 rfl)) rfl <| vQ rfl rfl rfl rfl (λ hc => bne (gt hc rfl) rfl) rfl <| vL (pA rfl rfl rfl rfl) <| nK <| ?_
   refine cb rfl (λ h_56 => ?_) (λ h_56 => ?_)
   ·simp only [bS] at h_56
    refine rg <| vL (fa eF151 rfl) <| st (new := [.int .i64 o.by_, .int .i64 o.kind, .int .i64 o.who, .int .i64 0, .int .i64 0, .int .i64 0]) rfl rfl B_5 rfl eF11 rfl rfl rfl λ w_57 m_58 B_5 => ?_
    have := m_58.size
    have z_57 := Ext.mod z_52 m_58 (ge1 (by omega))
    have := m_58.size
    refine nK <| sg <| vL (ld rfl (B_5.all eF152 eF153)) <| ?_
    have B_12 := B_12.mod m_53 (nm1 (by omega))
    have B_12 := B_12.mod m_58 (nm1 (by omega))
    refine st (new := [.int .i64 o.by_, .int .i64 o.kind, .int .i64 o.who, .int .i64 0, .int .i64 0, .int .i64 0]) rfl rfl B_12 rfl eF153 rfl rfl rfl λ w_61 m_62 B_12 => ?_
    have := m_62.size
    have z_61 := Ext.mod z_57 m_62 (ge1 (by omega))
    have := m_62.size
    refine nK <| rt <| tR (.cell rfl (B_12.all eF152 eF153) .nil) <| ?_
    exact ⟨by rw [show Odr.bare o = (⟨o.by_, o.kind, o.who, ⟨0, 0⟩, 0⟩ : Odr) from by unfold Odr.bare; congr 1 <;> (first | rfl | (split <;> first | rfl | omega))]; rfl, z_61⟩
   ·simp only [bS] at h_56
    refine sK <| sg <| vL (ld rfl (B_5.all eF152 eF153)) <| ?_
    have B_12 := B_12.mod m_53 (nm1 (by omega))
    refine st (new := [.int .i64 o.by_, .int .i64 o.kind, .int .i64 o.who, .int .i64 0, .int .i64 0, .int .i64 o.what]) rfl rfl B_12 rfl eF153 rfl rfl rfl λ w_65 m_66 B_12 => ?_
    have := m_66.size
    have z_65 := Ext.mod z_52 m_66 (ge1 (by omega))
    have := m_66.size
    refine nK <| rt <| tR (.cell rfl (B_12.all eF152 eF153) .nil) <| ?_
    exact ⟨by rw [show Odr.bare o = (⟨o.by_, o.kind, o.who, ⟨0, 0⟩, o.what⟩ : Odr) from by unfold Odr.bare; congr 1 <;> (first | rfl | (split <;> first | rfl | omega))]; rfl, z_65⟩
  ·simp only [bS] at h_51
   refine sK <| sq <| sg <| vL (fa eF148 rfl) <| vL (ld rfl (B_5.one eF5 rfl)) <| vL (bne rfl rfl) <| vm rfl <| vQ rfl rfl rfl rfl (λ hc => fa eF148 rfl) rfl <| vQ rfl rfl rfl rfl (λ hc => ld (gt hc rfl) (B_5.one eF5 rfl)) rfl <| vQ rfl rfl rfl rfl (λ hc => bne (gt hc rfl) rfl) rfl <| vL (pA rfl rfl rfl rfl) <| nK <| ?_
   refine cb rfl (λ h_69 => ?_) (λ h_69 => ?_)
   ·simp only [bS] at h_69
    refine rg <| vL (fa eF151 rfl) <| st (new := [.int .i64 o.by_, .int .i64 o.kind, .int .i64 o.who, .int .i64 o.spot.x, .int .i64 o.spot.y, .int .i64 0]) rfl rfl B_5 rfl eF11 rfl rfl rfl λ w_70 m_71 B_5 => ?_
    have := m_71.size
    have z_70 := Ext.mod z_8 m_71 (ge1 (by omega))
    have := m_71.size
    refine nK <| sg <| vL (ld rfl (B_5.all eF152 eF153)) <| ?_
    have B_12 := B_12.mod m_71 (nm1 (by omega))
    refine st (new := [.int .i64 o.by_, .int .i64 o.kind, .int .i64 o.who, .int .i64 o.spot.x, .int .i64 o.spot.y, .int .i64 0]) rfl rfl B_12 rfl eF153 rfl rfl rfl λ w_74 m_75 B_12 => ?_
    have := m_75.size
    have z_74 := Ext.mod z_70 m_75 (ge1 (by omega))
    have := m_75.size
    refine nK <| rt <| tR (.cell rfl (B_12.all eF152 eF153) .nil) <| ?_
    exact ⟨by rw [show Odr.bare o = (⟨o.by_, o.kind, o.who, ⟨o.spot.x, o.spot.y⟩, 0⟩ : Odr) from by unfold Odr.bare; congr 1 <;> (first | rfl | (split <;> first | rfl | omega))]; rfl, z_74⟩
   ·simp only [bS] at h_69
    refine sK <| sg <| vL (ld rfl (B_5.all eF152 eF153)) <| st (new := [.int .i64 o.by_, .int .i64 o.kind, .int .i64 o.who, .int .i64 o.spot.x, .int .i64 o.spot.y, .int .i64 o.what]) rfl rfl B_12 rfl eF153 rfl rfl rfl λ w_78 m_79 B_12 => ?_
    have := m_79.size
    have z_78 := Ext.mod z_8 m_79 (ge1 (by omega))
    have := m_79.size
    refine nK <| rt <| tR (.cell rfl (B_12.all eF152 eF153) .nil) <| ?_
    exact ⟨by rw [show Odr.bare o = (⟨o.by_, o.kind, o.who, ⟨o.spot.x, o.spot.y⟩, o.what⟩ : Odr) from by unfold Odr.bare; congr 1 <;> (first | rfl | (split <;> first | rfl | omega))]; rfl, z_78⟩
theorem ocheck_any (o : Odr) (w : World) :
  Calls Try.prog 132 #[.agg #[.int .i64 o.by_, .int .i64 o.kind, .int .i64 o.who, .int .i64 o.spot.x, .int .i64 o.spot.y, .int .i64 o.what]] w (λ e w' => e = .returned (.int .i64 o.chk) ∧ Ext w w') := by
 refine calls_W (n := 43) Try.func132 rfl rfl rfl ?_
 refine sg <| bx rfl rfl rfl rfl λ w_1 b_2 x_3 l_4 B_5 => ?_
 have := x_3.size
 have z_1 := eT (Ext.rf w) x_3
 have q_7 := B_5.lt
 refine va rfl <| nK <| sq <| sg <| vL (fa eF154 rfl) <| vL (ld rfl (B_5.one eF5 rfl)) <| ca eF155 rfl rfl ((owithin_any o.by_ 0 7 _).mono ?_)
 rintro e w_8 ⟨rfl, x_9⟩
 refine ⟨_, rfl, ?_⟩
 have := x_9.size
 have z_8 := eT z_1 x_9
 refine vL (nt rfl) <| vm rfl <| vQ rfl rfl rfl rfl (λ hc => fa eF148 rfl) rfl <| ?_
 have B_5 := B_5.later x_9
 refine vQ rfl rfl rfl rfl (λ hc => ld (gt hc rfl) (B_5.one eF5 rfl)) rfl <| vC rfl rfl rfl rfl eF155 (λ hc => ec (gt hc rfl) (ec rfl (ec rfl rfl))) (λ hc => owithin_any o.kind 1 5 _) rfl λ w_11 x_12 => ?_
 have := x_12.size
 have z_11 := eT z_8 x_12
 refine vQ rfl rfl rfl rfl (λ hc => nt (gt hc rfl)) rfl <| vL (pO rfl rfl rfl rfl) <| vm rfl <| vQ rfl rfl rfl rfl (λ hc => fa eF149 rfl) rfl <| ?_
 have B_5 := B_5.later x_12
 refine vQ rfl rfl rfl rfl (λ hc => ld (gt hc rfl) (B_5.one eF5 rfl)) rfl <| vC rfl rfl rfl rfl eF155 (λ hc => ec (gt hc rfl) (ec rfl (ec rfl rfl))) (λ hc => owithin_any o.who 0 1000000 _) rfl λ w_14 x_15 => ?_
 have := x_15.size
 have z_14 := eT z_11 x_15
 refine vQ rfl rfl rfl rfl (λ hc => nt (gt hc rfl)) rfl <| vL (pO rfl rfl rfl rfl) <| vm rfl <| vQ rfl rfl rfl rfl (λ hc => fa eF150 rfl) rfl <| vQ rfl rfl rfl rfl (λ hc => fa eF4 (gt hc rfl)) rfl <| ?_
 have B_5 := B_5.later x_15
 refine vQ rfl rfl rfl rfl (λ hc => ld (gt hc rfl) (B_5.one eF5 rfl)) rfl <| vC rfl rfl rfl rfl eF155 (λ hc => ec (gt hc rfl) (ec rfl (ec rfl rfl))) (λ hc => owithin_any o.spot.x (-1000) 1000 _) rfl λ w_17 x_18 => ?_
 have := x_18.size
 have z_17 := eT z_14 x_18
 refine vQ rfl rfl rfl rfl (λ hc => nt (gt hc rfl)) rfl <| vL (pO rfl rfl rfl rfl) <| vm rfl <| vQ rfl rfl rfl rfl (λ hc => fa eF150 rfl) rfl <| vQ rfl rfl rfl rfl (λ hc => fa eF6 (gt hc rfl)) rfl <| ?_
 have B_5 := B_5.later x_18
 refine vQ rfl rfl rfl rfl (λ hc => ld (gt hc rfl) (B_5.one eF5 rfl)) rfl <| vC rfl rfl rfl rfl eF155 (λ hc => ec (gt hc rfl) (ec rfl (ec rfl rfl))) (λ hc => owithin_any o.spot.y (-1000) 1000 _) rfl λ w_20 x_21 => ?_
 have := x_21.size
 have z_20 := eT z_17 x_21
 refine vQ rfl rfl rfl rfl (λ hc => nt (gt hc rfl)) rfl <| vL (pO rfl rfl rfl rfl) <| vm rfl <| vQ rfl rfl rfl rfl (λ hc => fa eF151 rfl) rfl <| ?_
 have B_5 := B_5.later x_21
 refine vQ rfl rfl rfl rfl (λ hc => ld (gt hc rfl) (B_5.one eF5 rfl)) rfl <| vC rfl rfl rfl rfl eF155 (λ hc => ec (gt hc rfl) (ec rfl (ec rfl rfl))) (λ hc => owithin_any o.what 0 1000000 _) rfl λ w_23 x_24 => ?_
 have := x_24.size
 have z_23 := eT z_20 x_24
 refine vQ rfl rfl rfl rfl (λ hc => nt (gt hc rfl)) rfl <| vL (pO rfl rfl rfl rfl) <| nK <| ?_
 refine cb rfl (λ h_26 => ?_) (λ h_26 => ?_)
 ·refine sg <| va rfl <| nK <| rt <| tT <| tR (.tmp rfl .nil) <| ?_
  exact ⟨by rw [Odr.chk_arg h_26]; rfl, z_23⟩
 ·refine sK <| sq <| sq <| ?_
  refine rd [(0, 0), (1, 0), (2, 0)] [0, 1, 2, 3] (by kernel_rfl) (by kernel_rfl) ?_
  have B_5 := B_5.later x_24
  refine fq1 rfl (λ _ x => ld rfl ((B_5.later x).all eF152 eF153)) <| fc rfl rfl eF156 rfl (λ _ x => obare_any o _) rfl <| fq1 rfl (λ _ x => ld rfl ((B_5.later x).all eF152 eF153)) <| fw1 rfl (λ _ => bnS Ords_eqs_api_Order Ords_eqg_api_Order (p := Odr.bare o) (q := o) rfl rfl) <| fn λ w_27 x_28 => ?_
  have := x_28.size
  have z_27 := eT z_23 x_28
  refine nT <| ?_
  refine cb rfl (λ h_30 => ?_) (λ h_30 => ?_)
  ·refine sg <| va rfl <| nK <| rt <| tT <| tR (.tmp rfl .nil) <| ?_
   exact ⟨by rw [Odr.chk_form h_26 h_30]; rfl, z_27⟩
  ·refine sK <| sg <| va rfl <| nK <| rt <| tR (.tmp rfl .nil) <| ?_
   exact ⟨by rw [Odr.chk_good h_26 h_30]; rfl, z_27⟩
theorem oall_any (A : Option Addr) (c : Nat) (l : List Odr) (w : World) (hl : Odr.rep.SHas 48 w A c l) :
  Calls Try.prog 89 #[.slice A l.length c] w (λ e w' => e = .returned (.int .i64 (ordsE l)) ∧ Ext w w') := by
 have hll := hl.len_le
 refine calls_W (n := 21) Try.func89 rfl rfl rfl ?_
 refine sg <| va rfl <| nK <| sq <| sg <| vm rfl <| vL (ln Try.underlying59 rfl) <| vL (bgt rfl rfl) <| nK <| ?_
 refine clt rfl (λ h_1 => ?_) (λ h_1 => ?_)
 ·refine sg <| va rfl <| nK <| rt <| tT <| tR (.tmp rfl .nil) <| ?_
  exact ⟨by rw [ordsE_large (by omega)]; rfl, (Ext.rf w)⟩
 ·refine sK <| sq <| sg <| vm rfl <| vL (ln Try.underlying59 rfl) <| vm rfl <| nK <| bk <| ?_
  refine lp (λ mI EI wI => ∃ k : Nat, EI = [(9, .slice A l.length c), (10, .int .i64 (l.length : Int)), (11, .int .i64 (k : Int))] ∧ mI = l.length - k ∧ Ext w wI ∧ (k ≤ l.length) ∧ (∀ i, i < k → (l.getD i default).chk = 0)) _ _ ⟨0, rfl, rfl, (Ext.rf w), by omega, λ i hi => by omega⟩ (.cons rfl (.cons rfl (.cons (loI rfl (by first | omega | rfl | (simp <;> omega))) .nil))) ?_
  rintro m_3 E_4 w_2 ⟨k, rfl, rfl, z_2, hk, hg⟩
  have := z_2.size
  refine sg <| vL (blt rfl rfl) <| nK <| sq <| ?_
  refine clt rfl (λ h_6 => ?_) (λ h_6 => ?_)
  ·refine sK <| sq <| bk <| sg <| vL (iA k Try.underlying59 eF153 rfl rfl ((hl.keep z_2).adr (zl k (by omega))) rfl (by omega)) <| vL (ld rfl (Rep.SHas.elt hcO ((hl.keep z_2).adh (zl k (by omega))) (get_d (l := l) (u := default) (by omega)) eF152 eF153)) <| al rfl eF147 rfl rfl λ w_7 b_8 x_9 l_10 B_11 => ?_
   have := x_9.size
   have z_7 := eT z_2 x_9
   have q_13 := B_11.lt
   refine st (new := [.int .i64 ((l.getD k default).by_), .int .i64 ((l.getD k default).kind), .int .i64 ((l.getD k default).who), .int .i64 ((l.getD k default).spot.x), .int .i64 ((l.getD k default).spot.y), .int .i64 ((l.getD k default).what)]) rfl rfl B_11 rfl eF153 rfl rfl rfl λ w_14 m_15 B_11 => ?_
   have := m_15.size
   have z_14 := Ext.mod z_7 m_15 (ge1 (by omega))
   have := m_15.size
   refine nK <| sg <| vL (ld rfl (B_11.all eF152 eF153)) <| ca eF157 rfl rfl ((ocheck_any (l.getD k default) _).mono ?_)
   rintro e w_18 ⟨rfl, x_19⟩
   refine ⟨_, rfl, ?_⟩
   have := x_19.size
   have z_18 := eT z_14 x_19
   refine va rfl <| nK <| sg <| vm rfl <| vL (bne rfl rfl) <| nK <| ?_
   refine cne rfl (λ h_21 => ?_) (λ h_21 => ?_)
   ·refine sg <| vm rfl <| va rfl <| nK <| rt <| tB <| tT <| tK <| tB <| tT <| tR (.tmp rfl .nil) <| ?_
    exact ⟨by rw [ordsE_at (by omega) (show k < l.length by omega) hg (by simpa using h_21)]; rfl, z_18⟩
   ·refine sk <| nB <| nT <| rg <| vL (bad rfl rfl (inI (by omega))) <| vm rfl <| nl <| ?_
    exact nI _ _ ⟨k + 1, rfl, rfl, z_18, by omega, lt_succ_all hg (by simpa using h_21)⟩ (by omega) (.cons rfl (.cons rfl (.cons (loI rfl (by first | omega | rfl | (simp <;> omega))) .nil)))
  ·refine xt <| xT <| xK <| xB <| nT <| sg <| va rfl <| nK <| rt <| tR (.tmp rfl .nil) <| ?_
   exact ⟨by rw [ordsE_ok (by omega) (λ i hi => hg i (by omega))]; rfl, z_2⟩
end
section
open Go.RowKit
theorem Spl_el_S_api_Blow : ElT Try.prog Blw.rep 107 193 16 := ElT.mk_ (z := Blw.zero) (k := 2) Try.underlying107 Blw.info rfl rfl (by decide) Blw.zero_raw
theorem Spl_el_S_api_Go : ElT Try.prog Gox.rep 108 195 24 := ElT.mk_ (z := Gox.zero) (k := 3) Try.underlying108 Gox.info rfl rfl (by decide) Gox.zero_raw
theorem Spl_el_S_api_Deed : ElT Try.prog Ded.rep 109 159 40 := ElT.mk_ (z := Ded.zero) (k := 5) Try.underlying109 Ded.info rfl rfl (by decide) Ded.zero_raw
def spB (o : Odr) : List Blw := if o.kind = 1 then [⟨o.who, o.what⟩] else []
def spG (o : Odr) : List Gox := if o.kind = 2 then [⟨o.who, ⟨o.spot.x, o.spot.y⟩⟩] else []
def spD (o : Odr) : List Ded := if o.kind = 3 then [⟨1, o.who, ⟨o.spot.x, o.spot.y⟩, 0⟩] else if o.kind = 4 then [⟨2, o.who, ⟨0, 0⟩, 0⟩] else if o.kind = 5 then [⟨3, o.by_, ⟨0, 0⟩, o.what⟩] else []
theorem add_any (o : Odr) (w0 : World) (bq : Nat) (A B C : Option Addr) (a b c : Nat) (qb : List Blw) (qg : List Gox) (qd : List Ded) (w : World) (hx0 : Ext w0 w) (hok : o.ok) (hS : Blk w bq [.slice A qb.length a, .slice B qg.length b, .slice C qd.length c] 151 (0, 0)) (hA : Blw.rep.SOwn 193 16 w w0.heap.size (Rep.blkOf A) A a qb) (hB : Gox.rep.SOwn 195 24 w w0.heap.size (Rep.blkOf B) B b qg) (hC : Ded.rep.SOwn 159 40 w w0.heap.size (Rep.blkOf C) C c qd) (dA : ∀ q ∈ Rep.blkOf A, q = bq → False) (dB : ∀ q ∈ Rep.blkOf B, q = bq → False) (dC : ∀ q ∈ Rep.blkOf C, q = bq → False) (dBA : ∀ q ∈ Rep.blkOf B, q ∈ Rep.blkOf A → False) (dCA : ∀ q ∈ Rep.blkOf C, q ∈ Rep.blkOf A → False) (dCB : ∀ q ∈ Rep.blkOf C, q ∈ Rep.blkOf B → False) (n1 : qb.length ≤ 100) (n2 : qg.length ≤ 100) (n3 : qd.length ≤ 100) :
  Calls Try.prog 90 #[.pointer (some ⟨bq, 0, none⟩), .agg #[.int .i64 o.by_, .int .i64 o.kind, .int .i64 o.who, .int .i64 o.spot.x, .int .i64 o.spot.y, .int .i64 o.what]] w (λ e w' => ∃ A' a' B' b' C' c', e = .returned (.tuple #[]) ∧ Blk w' bq [.slice A' (qb ++ spB o).length a', .slice B' (qg ++ spG o).length b', .slice C' (qd ++ spD o).length c'] 151 (0, 0) ∧ Blw.rep.SOwn 193 16 w' w0.heap.size (Rep.blkOf A') A' a' (qb ++ spB o) ∧ Gox.rep.SOwn 195 24 w' w0.heap.size (Rep.blkOf B') B' b' (qg ++ spG o) ∧ Ded.rep.SOwn 159 40 w' w0.heap.size (Rep.blkOf C') C' c' (qd ++ spD o) ∧ (∀ q ∈ Rep.blkOf A', q = bq → False) ∧ (∀ q ∈ Rep.blkOf B', q = bq → False) ∧ (∀ q ∈ Rep.blkOf C', q = bq → False) ∧ (∀ q ∈ Rep.blkOf B', q ∈ Rep.blkOf A' → False) ∧ (∀ q ∈ Rep.blkOf C', q ∈ Rep.blkOf A' → False) ∧ (∀ q ∈ Rep.blkOf C', q ∈ Rep.blkOf B' → False) ∧ (∀ q ∈ Rep.blkOf A', q ∈ Rep.blkOf A ∨ w.heap.size ≤ q) ∧ (∀ q ∈ Rep.blkOf B', q ∈ Rep.blkOf B ∨ w.heap.size ≤ q) ∧ (∀ q ∈ Rep.blkOf C', q ∈ Rep.blkOf C ∨ w.heap.size ≤ q) ∧ Mod (bq :: (Rep.blkOf A ++ (Rep.blkOf B ++ Rep.blkOf C))) w w') := by
 have hx0s := hx0.size
 have qs := hS.lt
 have uA := λ q hq => (hA.lt q hq).2
 have uB := λ q hq => (hB.lt q hq).2
 have uC := λ q hq => (hC.lt q hq).2
 have lA : ∀ q ∈ Rep.blkOf A, w0.heap.size ≤ q := λ q hq => (hA.lt q hq).1
 have lB : ∀ q ∈ Rep.blkOf B, w0.heap.size ≤ q := λ q hq => (hB.lt q hq).1
 have lC : ∀ q ∈ Rep.blkOf C, w0.heap.size ≤ q := λ q hq => (hC.lt q hq).1
 refine calls_W (n := 84) Try.func90 rfl rfl rfl ?_
 refine sg <| bx rfl rfl rfl rfl λ w_1 b_2 x_3 l_4 B_5 => ?_
 have := x_3.size
 have z_1 := (Mod.rf (bq :: (Rep.blkOf A ++ (Rep.blkOf B ++ Rep.blkOf C))) w).trans (Mod.of_ext x_3)
 have q_7 := B_5.lt
 refine nK <| sg <| vL (fa eF148 rfl) <| vL (ld rfl (B_5.one eF5 rfl)) <| nK <| bk <| sg <| vL (beq rfl rfl) <| va rfl <| nK <| ?_
 refine ceq rfl (λ h_8 => ?_) (λ h_8 => ?_)
 ·refine rd [(4, 0), (6, 0), (8, 0), (10, 2), (11, 3), (14, 3)] [0, 1, 2, 3, 4, 5, 6, 7, 8, 9, 10, 11, 12, 13, 14] (by kernel_rfl) (by kernel_rfl) ?_
  refine fw1 rfl (λ _ => mv rfl) <| fw1 rfl (λ _ => mv rfl) <| fw1 rfl (λ _ => nc rfl) <| fw1 rfl (λ _ => fa eF158 rfl) <| ?_
  have hS := hS.later x_3
  refine fq1 rfl (λ _ x => ld rfl ((hS.later x).one eF159 rfl)) <| fw1 rfl (λ _ => fa eF149 rfl) <| fq1 rfl (λ _ x => ld rfl ((B_5.later x).one eF5 rfl)) <| fw1 rfl (λ _ => fa eF151 rfl) <| fq1 rfl (λ _ x => ld rfl ((B_5.later x).one eF5 rfl)) <| fw (v := .agg #[.int .i64 o.who, .int .i64 o.what]) rfl rfl (λ _ => bd rfl (by kernel_rfl)) rfl <| fx rfl rfl rfl λ w_9 x_10 Q hK => bs (e := 193) (cs := [.int .i64 o.who, .int .i64 o.what]) rfl (λ _ => by kernel_rfl) rfl λ w_11 b_12 x_13 l_14 B_15 => hK _ _ ⟨eT x_10 x_13, ?_⟩
  have := x_10.size
  have z_9 := z_1.trans (Mod.of_ext x_10)
  have := x_13.size
  have z_11 := z_9.trans (Mod.of_ext x_13)
  have q_18 := B_15.lt
  have hA := hA.later (eT x_3 (eT x_10 x_13))
  refine fb rfl rfl rfl λ w_19 x_20 Q hK => ap Spl_el_S_api_Blow Rep.flat_bare (hA.later x_20) ((Blk.has1 (R := Blw.rep) (by_ := 16) (q := (⟨o.who, o.what⟩ : Blw)) B_15 ⟨rfl, (by obtain ⟨o0, o1, o2, o3, o4, o5⟩ := hok; exact ⟨o2, o5⟩)⟩ (by decide)).keep x_20) rfl rfl (by simp only [List.length_cons, List.length_nil]; omega) (by simp only [List.length_cons, List.length_nil]; omega) (by have := x_20.size; omega) rfl λ w_21 A_22 c_23 m_24 O_25 g_26 n_27 => hK _ _ ?_
  have := x_20.size
  have z_19 := z_11.trans (Mod.of_ext x_20)
  have := m_24.size
  have z_21 := z_19.md m_24 (λ q hq => .inl (List.mem_cons_of_mem _ (List.mem_append.2 (.inl hq))))
  have u_30 := λ q hq => (O_25.lt q hq).2
  have := m_24.size
  refine fw1 rfl (λ _ => nc rfl) <| fw1 rfl (λ _ => fa eF158 rfl) <| ?_
  have hS := hS.later (eT x_10 (eT x_13 x_20))
  have hS := hS.mod m_24 (λ hq => dA _ hq rfl)
  refine fb rfl rfl rfl λ w_32 x_33 Q hK => st (new := [.slice A_22 ((qb ++ [(⟨o.who, o.what⟩ : Blw)]).length) c_23, .slice B qg.length b, .slice C qd.length c]) rfl rfl (hS.later x_33) rfl eF160 rfl rfl rfl λ w_34 m_35 hS => hK _ _ ?_
  have := x_33.size
  have z_32 := z_21.trans (Mod.of_ext x_33)
  have := m_35.size
  have z_34 := z_32.md m_35 (λ q hq => .inl (by rw [List.mem_singleton.1 hq]; exact List.mem_cons_self))
  have := m_35.size
  refine fn λ w_39 x_40 => ?_
  have := x_40.size
  have z_39 := z_34.trans (Mod.of_ext x_40)
  refine nB <| ne <| tR .nil <| ?_
  have hS := hS.later x_40
  have O_25 := O_25.later x_33
  have O_25 := O_25.mod m_35 (λ q hq h => by have hb := List.mem_singleton.1 h; exfalso; (exact Or.elim (g_26 q hq) (λ k_42 => by (exact dA q k_42 hb)) (λ k_42 => by omega)))
  have O_25 := O_25.later x_40
  have hB := hB.later (eT x_3 (eT x_10 (eT x_13 x_20)))
  have hB := hB.mod m_24 (λ q hq h => by exfalso; (exact dBA q hq h))
  have hB := hB.later x_33
  have hB := hB.mod m_35 (λ q hq h => by have hb := List.mem_singleton.1 h; exfalso; (exact dB q hq hb))
  have hB := hB.later x_40
  have hC := hC.later (eT x_3 (eT x_10 (eT x_13 x_20)))
  have hC := hC.mod m_24 (λ q hq h => by exfalso; (exact dCA q hq h))
  have hC := hC.later x_33
  have hC := hC.mod m_35 (λ q hq h => by have hb := List.mem_singleton.1 h; exfalso; (exact dC q hq hb))
  have hC := hC.later x_40
  have e1 : spB o = [(⟨o.who, o.what⟩ : Blw)] := by unfold spB; simp [*]
  have e2 : spG o = [] := by unfold spG; simp [*]
  have e3 : spD o = [] := by unfold spD; simp [*]
  rw [e1, e2, e3]
  simp only [List.append_nil]
  exact ⟨A_22, c_23, B, b, C, c, rfl, hS, O_25, hB, hC, (λ q hq hb => by (exact Or.elim (g_26 q hq) (λ k_43 => by (exact dA q k_43 hb)) (λ k_43 => by omega))), (λ q hq hb => by (exact dB q hq hb)), (λ q hq hb => by (exact dC q hq hb)), (λ q hq hb => by (exact Or.elim (g_26 q hb) (λ k_44 => by (exact dBA q hq k_44)) (λ k_44 => by (have := uB q hq; omega)))), (λ q hq hb => by (exact Or.elim (g_26 q hb) (λ k_45 => by (exact dCA q hq k_45)) (λ k_45 => by (have := uC q hq; omega)))), (λ q hq hb => by (exact dCB q hq hb)), (λ q hq => (g_26 q hq).imp id λ h => by omega), (λ q hq => .inl hq), (λ q hq => .inl hq), z_39⟩
 ·refine sg <| vL (beq rfl rfl) <| va rfl <| nK <| ?_
  refine ceq rfl (λ h_46 => ?_) (λ h_46 => ?_)
  ·refine rd [(4, 0), (6, 0), (8, 0), (10, 2), (11, 3), (14, 3)] [0, 1, 2, 3, 4, 5, 6, 7, 8, 9, 10, 11, 12, 13, 14] (by kernel_rfl) (by kernel_rfl) ?_
   refine fw1 rfl (λ _ => mv rfl) <| fw1 rfl (λ _ => mv rfl) <| fw1 rfl (λ _ => nc rfl) <| fw1 rfl (λ _ => fa eF161 rfl) <| ?_
   have hS := hS.later x_3
   refine fq1 rfl (λ _ x => ld rfl ((hS.later x).one eF162 rfl)) <| fw1 rfl (λ _ => fa eF149 rfl) <| fq1 rfl (λ _ x => ld rfl ((B_5.later x).one eF5 rfl)) <| fw1 rfl (λ _ => fa eF150 rfl) <| fq1 rfl (λ _ x => ld rfl ((B_5.later x).par [.int .i64 o.spot.x, .int .i64 o.spot.y] eF7 eF8 rfl)) <| fw (v := .agg #[.int .i64 o.who, .int .i64 o.spot.x, .int .i64 o.spot.y]) rfl rfl (λ _ => bd rfl (by kernel_rfl)) rfl <| fx rfl rfl rfl λ w_47 x_48 Q hK => bs (e := 195) (cs := [.int .i64 o.who, .int .i64 o.spot.x, .int .i64 o.spot.y]) rfl (λ _ => by kernel_rfl) rfl λ w_49 b_50 x_51 l_52 B_53 => hK _ _ ⟨eT x_48 x_51, ?_⟩
   have := x_48.size
   have z_47 := z_1.trans (Mod.of_ext x_48)
   have := x_51.size
   have z_49 := z_47.trans (Mod.of_ext x_51)
   have q_56 := B_53.lt
   have hB := hB.later (eT x_3 (eT x_48 x_51))
   refine fb rfl rfl rfl λ w_57 x_58 Q hK => ap Spl_el_S_api_Go Rep.flat_bare (hB.later x_58) ((Blk.has1 (R := Gox.rep) (by_ := 24) (q := (⟨o.who, ⟨o.spot.x, o.spot.y⟩⟩ : Gox)) B_53 ⟨rfl, (by obtain ⟨o0, o1, o2, o3, o4, o5⟩ := hok; exact ⟨o2, o3, o4⟩)⟩ (by decide)).keep x_58) rfl rfl (by simp only [List.length_cons, List.length_nil]; omega) (by simp only [List.length_cons, List.length_nil]; omega) (by have := x_58.size; omega) rfl λ w_59 A_60 c_61 m_62 O_63 g_64 n_65 => hK _ _ ?_
   have := x_58.size
   have z_57 := z_49.trans (Mod.of_ext x_58)
   have := m_62.size
   have z_59 := z_57.md m_62 (λ q hq => .inl (List.mem_cons_of_mem _ (List.mem_append.2 (.inr (List.mem_append.2 (.inl hq))))))
   have u_68 := λ q hq => (O_63.lt q hq).2
   have := m_62.size
   refine fw1 rfl (λ _ => nc rfl) <| fw1 rfl (λ _ => fa eF161 rfl) <| ?_
   have hS := hS.later (eT x_48 (eT x_51 x_58))
   have hS := hS.mod m_62 (λ hq => dB _ hq rfl)
   refine fb rfl rfl rfl λ w_70 x_71 Q hK => st (new := [.slice A qb.length a, .slice A_60 ((qg ++ [(⟨o.who, ⟨o.spot.x, o.spot.y⟩⟩ : Gox)]).length) c_61, .slice C qd.length c]) rfl rfl (hS.later x_71) rfl eF163 rfl rfl rfl λ w_72 m_73 hS => hK _ _ ?_
   have := x_71.size
   have z_70 := z_59.trans (Mod.of_ext x_71)
   have := m_73.size
   have z_72 := z_70.md m_73 (λ q hq => .inl (by rw [List.mem_singleton.1 hq]; exact List.mem_cons_self))
   have := m_73.size
   refine fn λ w_77 x_78 => ?_
   have := x_78.size
   have z_77 := z_72.trans (Mod.of_ext x_78)
   refine nB <| ne <| tR .nil <| ?_
   have hS := hS.later x_78
   have hA := hA.later (eT x_3 (eT x_48 (eT x_51 x_58)))
   have hA := hA.mod m_62 (λ q hq h => by exfalso; (exact dBA q h hq))
   have hA := hA.later x_71
   have hA := hA.mod m_73 (λ q hq h => by have hb := List.mem_singleton.1 h; exfalso; (exact dA q hq hb))
   have hA := hA.later x_78
   have O_63 := O_63.later x_71
   have O_63 := O_63.mod m_73 (λ q hq h => by have hb := List.mem_singleton.1 h; exfalso; (exact Or.elim (g_64 q hq) (λ k_80 => by (exact dB q k_80 hb)) (λ k_80 => by omega)))
   have O_63 := O_63.later x_78
   have hC := hC.later (eT x_3 (eT x_48 (eT x_51 x_58)))
   have hC := hC.mod m_62 (λ q hq h => by exfalso; (exact dCB q hq h))
   have hC := hC.later x_71
   have hC := hC.mod m_73 (λ q hq h => by have hb := List.mem_singleton.1 h; exfalso; (exact dC q hq hb))
   have hC := hC.later x_78
   have e1 : spB o = [] := by unfold spB; simp [*]
   have e2 : spG o = [(⟨o.who, ⟨o.spot.x, o.spot.y⟩⟩ : Gox)] := by unfold spG; simp [*]
   have e3 : spD o = [] := by unfold spD; simp [*]
   rw [e1, e2, e3]
   simp only [List.append_nil]
   exact ⟨A, a, A_60, c_61, C, c, rfl, hS, hA, O_63, hC, (λ q hq hb => by (exact dA q hq hb)), (λ q hq hb => by (exact Or.elim (g_64 q hq) (λ k_81 => by (exact dB q k_81 hb)) (λ k_81 => by omega))), (λ q hq hb => by (exact dC q hq hb)), (λ q hq hb => by (exact Or.elim (g_64 q hq) (λ k_82 => by (exact dBA q k_82 hb)) (λ k_82 => by (have := uA q hb; omega)))), (λ q hq hb => by (exact dCA q hq hb)), (λ q hq hb => by (exact Or.elim (g_64 q hb) (λ k_83 => by (exact dCB q hq k_83)) (λ k_83 => by (have := uC q hq; omega)))), (λ q hq => .inl hq), (λ q hq => (g_64 q hq).imp id λ h => by omega), (λ q hq => .inl hq), z_77⟩
  ·refine sg <| vL (beq rfl rfl) <| va rfl <| nK <| ?_
   refine ceq rfl (λ h_84 => ?_) (λ h_84 => ?_)
   ·refine rd [(4, 0), (6, 0), (8, 0), (10, 2), (11, 3), (14, 3)] [0, 1, 2, 3, 4, 5, 6, 7, 8, 9, 10, 11, 12, 13, 14] (by kernel_rfl) (by kernel_rfl) ?_
    refine fw1 rfl (λ _ => mv rfl) <| fw1 rfl (λ _ => mv rfl) <| fw1 rfl (λ _ => nc rfl) <| fw1 rfl (λ _ => fa eF164 rfl) <| ?_
    have hS := hS.later x_3
    refine fq1 rfl (λ _ x => ld rfl ((hS.later x).one eF165 rfl)) <| fw1 rfl (λ _ => fa eF149 rfl) <| fq1 rfl (λ _ x => ld rfl ((B_5.later x).one eF5 rfl)) <| fw1 rfl (λ _ => fa eF150 rfl) <| fq1 rfl (λ _ x => ld rfl ((B_5.later x).par [.int .i64 o.spot.x, .int .i64 o.spot.y] eF7 eF8 rfl)) <| fw (v := .agg #[.int .i64 1, .int .i64 o.who, .int .i64 o.spot.x, .int .i64 o.spot.y, .int .i64 0]) rfl rfl (λ _ => bd rfl (by kernel_rfl)) rfl <| fx rfl rfl rfl λ w_85 x_86 Q hK => bs (e := 159) (cs := [.int .i64 1, .int .i64 o.who, .int .i64 o.spot.x, .int .i64 o.spot.y, .int .i64 0]) rfl (λ _ => by kernel_rfl) rfl λ w_87 b_88 x_89 l_90 B_91 => hK _ _ ⟨eT x_86 x_89, ?_⟩
    have := x_86.size
    have z_85 := z_1.trans (Mod.of_ext x_86)
    have := x_89.size
    have z_87 := z_85.trans (Mod.of_ext x_89)
    have q_94 := B_91.lt
    have hC := hC.later (eT x_3 (eT x_86 x_89))
    refine fb rfl rfl rfl λ w_95 x_96 Q hK => ap Spl_el_S_api_Deed Rep.flat_bare (hC.later x_96) ((Blk.has1 (R := Ded.rep) (by_ := 40) (q := (⟨1, o.who, ⟨o.spot.x, o.spot.y⟩, 0⟩ : Ded)) B_91 ⟨rfl, (by obtain ⟨o0, o1, o2, o3, o4, o5⟩ := hok; exact ⟨okI_iff.2 (by (try dsimp only); omega), o2, o3, o4, okI_iff.2 (by (try dsimp only); omega)⟩)⟩ (by decide)).keep x_96) rfl rfl (by simp only [List.length_cons, List.length_nil]; omega) (by simp only [List.length_cons, List.length_nil]; omega) (by have := x_96.size; omega) rfl λ w_97 A_98 c_99 m_100 O_101 g_102 n_103 => hK _ _ ?_
    have := x_96.size
    have z_95 := z_87.trans (Mod.of_ext x_96)
    have := m_100.size
    have z_97 := z_95.md m_100 (λ q hq => .inl (List.mem_cons_of_mem _ (List.mem_append.2 (.inr (List.mem_append.2 (.inr hq))))))
    have u_106 := λ q hq => (O_101.lt q hq).2
    have := m_100.size
    refine fw1 rfl (λ _ => nc rfl) <| fw1 rfl (λ _ => fa eF164 rfl) <| ?_
    have hS := hS.later (eT x_86 (eT x_89 x_96))
    have hS := hS.mod m_100 (λ hq => dC _ hq rfl)
    refine fb rfl rfl rfl λ w_108 x_109 Q hK => st (new := [.slice A qb.length a, .slice B qg.length b, .slice A_98 ((qd ++ [(⟨1, o.who, ⟨o.spot.x, o.spot.y⟩, 0⟩ : Ded)]).length) c_99]) rfl rfl (hS.later x_109) rfl eF166 rfl rfl rfl λ w_110 m_111 hS => hK _ _ ?_
    have := x_109.size
    have z_108 := z_97.trans (Mod.of_ext x_109)
    have := m_111.size
    have z_110 := z_108.md m_111 (λ q hq => .inl (by rw [List.mem_singleton.1 hq]; exact List.mem_cons_self))
    have := m_111.size
    refine fn λ w_115 x_116 => ?_
    have := x_116.size
    have z_115 := z_110.trans (Mod.of_ext x_116)
    refine nB <| ne <| tR .nil <| ?_
    have hS := hS.later x_116
    have hA := hA.later (eT x_3 (eT x_86 (eT x_89 x_96)))
    have hA := hA.mod m_100 (λ q hq h => by exfalso; (exact dCA q h hq))
    have hA := hA.later x_109
    have hA := hA.mod m_111 (λ q hq h => by have hb := List.mem_singleton.1 h; exfalso; (exact dA q hq hb))
    have hA := hA.later x_116
    have hB := hB.later (eT x_3 (eT x_86 (eT x_89 x_96)))
    have hB := hB.mod m_100 (λ q hq h => by exfalso; (exact dCB q h hq))
    have hB := hB.later x_109
    have hB := hB.mod m_111 (λ q hq h => by have hb := List.mem_singleton.1 h; exfalso; (exact dB q hq hb))
    have hB := hB.later x_116
    have O_101 := O_101.later x_109
    have O_101 := O_101.mod m_111 (λ q hq h => by have hb := List.mem_singleton.1 h; exfalso; (exact Or.elim (g_102 q hq) (λ k_118 => by (exact dC q k_118 hb)) (λ k_118 => by omega)))
    have O_101 := O_101.later x_116
    have e1 : spB o = [] := by unfold spB; simp [*]
    have e2 : spG o = [] := by unfold spG; simp [*]
    have e3 : spD o = [(⟨1, o.who, ⟨o.spot.x, o.spot.y⟩, 0⟩ : Ded)] := by unfold spD; simp [*]
    rw [e1, e2, e3]
    simp only [List.append_nil]
    exact ⟨A, a, B, b, A_98, c_99, rfl, hS, hA, hB, O_101, (λ q hq hb => by (exact dA q hq hb)), (λ q hq hb => by (exact dB q hq hb)), (λ q hq hb => by (exact Or.elim (g_102 q hq) (λ k_119 => by (exact dC q k_119 hb)) (λ k_119 => by omega))), (λ q hq hb => by (exact dBA q hq hb)), (λ q hq hb => by (exact Or.elim (g_102 q hq) (λ k_120 => by (exact dCA q k_120 hb)) (λ k_120 => by (have := uA q hb; omega)))), (λ q hq hb => by (exact Or.elim (g_102 q hq) (λ k_121 => by (exact dCB q k_121 hb)) (λ k_121 => by (have := uB q hb; omega)))), (λ q hq => .inl hq), (λ q hq => .inl hq), (λ q hq => (g_102 q hq).imp id λ h => by omega), z_115⟩
   ·refine sg <| vL (beq rfl rfl) <| va rfl <| nK <| ?_
    refine ceq rfl (λ h_122 => ?_) (λ h_122 => ?_)
    ·refine rd [(4, 0), (6, 0), (8, 2), (9, 3), (12, 3)] [0, 1, 2, 3, 4, 5, 6, 7, 8, 9, 10, 11, 12] (by kernel_rfl) (by kernel_rfl) ?_
     refine fw1 rfl (λ _ => mv rfl) <| fw1 rfl (λ _ => mv rfl) <| fw1 rfl (λ _ => nc rfl) <| fw1 rfl (λ _ => fa eF164 rfl) <| ?_
     have hS := hS.later x_3
     refine fq1 rfl (λ _ x => ld rfl ((hS.later x).one eF165 rfl)) <| fw1 rfl (λ _ => fa eF149 rfl) <| fq1 rfl (λ _ x => ld rfl ((B_5.later x).one eF5 rfl)) <| fw (v := .agg #[.int .i64 2, .int .i64 o.who, .int .i64 0, .int .i64 0, .int .i64 0]) rfl rfl (λ _ => bd rfl (by kernel_rfl)) rfl <| fx rfl rfl rfl λ w_123 x_124 Q hK => bs (e := 159) (cs := [.int .i64 2, .int .i64 o.who, .int .i64 0, .int .i64 0, .int .i64 0]) rfl (λ _ => by kernel_rfl) rfl λ w_125 b_126 x_127 l_128 B_129 => hK _ _ ⟨eT x_124 x_127, ?_⟩
     have := x_124.size
     have z_123 := z_1.trans (Mod.of_ext x_124)
     have := x_127.size
     have z_125 := z_123.trans (Mod.of_ext x_127)
     have q_132 := B_129.lt
     have hC := hC.later (eT x_3 (eT x_124 x_127))
     refine fb rfl rfl rfl λ w_133 x_134 Q hK => ap Spl_el_S_api_Deed Rep.flat_bare (hC.later x_134) ((Blk.has1 (R := Ded.rep) (by_ := 40) (q := (⟨2, o.who, ⟨0, 0⟩, 0⟩ : Ded)) B_129 ⟨rfl, (by obtain ⟨o0, o1, o2, o3, o4, o5⟩ := hok; exact ⟨okI_iff.2 (by (try dsimp only); omega), o2, okI_iff.2 (by (try dsimp only); omega), okI_iff.2 (by (try dsimp only); omega), okI_iff.2 (by (try dsimp only); omega)⟩)⟩ (by decide)).keep x_134) rfl rfl (by simp only [List.length_cons, List.length_nil]; omega) (by simp only [List.length_cons, List.length_nil]; omega) (by have := x_134.size; omega) rfl λ w_135 A_136 c_137 m_138 O_139 g_140 n_141 => hK _ _ ?_
     have := x_134.size
     have z_133 := z_125.trans (Mod.of_ext x_134)
     have := m_138.size
     have z_135 := z_133.md m_138 (λ q hq => .inl (List.mem_cons_of_mem _ (List.mem_append.2 (.inr (List.mem_append.2 (.inr hq))))))
     have u_144 := λ q hq => (O_139.lt q hq).2
     have := m_138.size
     refine fw1 rfl (λ _ => nc rfl) <| fw1 rfl (λ _ => fa eF164 rfl) <| ?_
     have hS := hS.later (eT x_124 (eT x_127 x_134))
     have hS := hS.mod m_138 (λ hq => dC _ hq rfl)
     refine fb rfl rfl rfl λ w_146 x_147 Q hK => st (new := [.slice A qb.length a, .slice B qg.length b, .slice A_136 ((qd ++ [(⟨2, o.who, ⟨0, 0⟩, 0⟩ : Ded)]).length) c_137]) rfl rfl (hS.later x_147) rfl eF166 rfl rfl rfl λ w_148 m_149 hS => hK _ _ ?_
     have := x_147.size
     have z_146 := z_135.trans (Mod.of_ext x_147)
     have := m_149.size
     have z_148 := z_146.md m_149 (λ q hq => .inl (by rw [List.mem_singleton.1 hq]; exact List.mem_cons_self))
     have := m_149.size
     refine fn λ w_153 x_154 => ?_
     have := x_154.size
     have z_153 := z_148.trans (Mod.of_ext x_154)
     refine nB <| ne <| tR .nil <| ?_
     have hS := hS.later x_154
     have hA := hA.later (eT x_3 (eT x_124 (eT x_127 x_134)))
     have hA := hA.mod m_138 (λ q hq h => by exfalso; (exact dCA q h hq))
     have hA := hA.later x_147
     have hA := hA.mod m_149 (λ q hq h => by have hb := List.mem_singleton.1 h; exfalso; (exact dA q hq hb))
     have hA := hA.later x_154
     have hB := hB.later (eT x_3 (eT x_124 (eT x_127 x_134)))
     have hB := hB.mod m_138 (λ q hq h => by exfalso; (exact dCB q h hq))
     have hB := hB.later x_147
     have hB := hB.mod m_149 (λ q hq h => by have hb := List.mem_singleton.1 h; exfalso; (exact dB q hq hb))
     have hB := hB.later x_154
     have O_139 := O_139.later x_147
     have O_139 := O_139.mod m_149 (λ q hq h => by have hb := List.mem_singleton.1 h; exfalso; (exact Or.elim (g_140 q hq) (λ k_156 => by (exact dC q k_156 hb)) (λ k_156 => by omega)))
     have O_139 := O_139.later x_154
     have e1 : spB o = [] := by unfold spB; simp [*]
     have e2 : spG o = [] := by unfold spG; simp [*]
     have e3 : spD o = [(⟨2, o.who, ⟨0, 0⟩, 0⟩ : Ded)] := by unfold spD; simp [*]
     rw [e1, e2, e3]
     simp only [List.append_nil]
     exact ⟨A, a, B, b, A_136, c_137, rfl, hS, hA, hB, O_139, (λ q hq hb => by (exact dA q hq hb)), (λ q hq hb => by (exact dB q hq hb)), (λ q hq hb => by (exact Or.elim (g_140 q hq) (λ k_157 => by (exact dC q k_157 hb)) (λ k_157 => by omega))), (λ q hq hb => by (exact dBA q hq hb)), (λ q hq hb => by (exact Or.elim (g_140 q hq) (λ k_158 => by (exact dCA q k_158 hb)) (λ k_158 => by (have := uA q hb; omega)))), (λ q hq hb => by (exact Or.elim (g_140 q hq) (λ k_159 => by (exact dCB q k_159 hb)) (λ k_159 => by (have := uB q hb; omega)))), (λ q hq => .inl hq), (λ q hq => .inl hq), (λ q hq => (g_140 q hq).imp id λ h => by omega), z_153⟩
    ·refine sg <| vL (beq rfl rfl) <| va rfl <| nK <| ?_
     refine ceq rfl (λ h_160 => ?_) (λ h_160 => ?_)
     ·refine rd [(4, 0), (6, 0), (8, 0), (10, 2), (11, 3), (14, 3)] [0, 1, 2, 3, 4, 5, 6, 7, 8, 9, 10, 11, 12, 13, 14] (by kernel_rfl) (by kernel_rfl) ?_
      refine fw1 rfl (λ _ => mv rfl) <| fw1 rfl (λ _ => mv rfl) <| fw1 rfl (λ _ => nc rfl) <| fw1 rfl (λ _ => fa eF164 rfl) <| ?_
      have hS := hS.later x_3
      refine fq1 rfl (λ _ x => ld rfl ((hS.later x).one eF165 rfl)) <| fw1 rfl (λ _ => fa eF154 rfl) <| fq1 rfl (λ _ x => ld rfl ((B_5.later x).one eF5 rfl)) <| fw1 rfl (λ _ => fa eF151 rfl) <| fq1 rfl (λ _ x => ld rfl ((B_5.later x).one eF5 rfl)) <| fw (v := .agg #[.int .i64 3, .int .i64 o.by_, .int .i64 0, .int .i64 0, .int .i64 o.what]) rfl rfl (λ _ => bd rfl (by kernel_rfl)) rfl <| fx rfl rfl rfl λ w_161 x_162 Q hK => bs (e := 159) (cs := [.int .i64 3, .int .i64 o.by_, .int .i64 0, .int .i64 0, .int .i64 o.what]) rfl (λ _ => by kernel_rfl) rfl λ w_163 b_164 x_165 l_166 B_167 => hK _ _ ⟨eT x_162 x_165, ?_⟩
      have := x_162.size
      have z_161 := z_1.trans (Mod.of_ext x_162)
      have := x_165.size
      have z_163 := z_161.trans (Mod.of_ext x_165)
      have q_170 := B_167.lt
      have hC := hC.later (eT x_3 (eT x_162 x_165))
      refine fb rfl rfl rfl λ w_171 x_172 Q hK => ap Spl_el_S_api_Deed Rep.flat_bare (hC.later x_172) ((Blk.has1 (R := Ded.rep) (by_ := 40) (q := (⟨3, o.by_, ⟨0, 0⟩, o.what⟩ : Ded)) B_167 ⟨rfl, (by obtain ⟨o0, o1, o2, o3, o4, o5⟩ := hok; exact ⟨okI_iff.2 (by (try dsimp only); omega), o0, okI_iff.2 (by (try dsimp only); omega), okI_iff.2 (by (try dsimp only); omega), o5⟩)⟩ (by decide)).keep x_172) rfl rfl (by simp only [List.length_cons, List.length_nil]; omega) (by simp only [List.length_cons, List.length_nil]; omega) (by have := x_172.size; omega) rfl λ w_173 A_174 c_175 m_176 O_177 g_178 n_179 => hK _ _ ?_
      have := x_172.size
      have z_171 := z_163.trans (Mod.of_ext x_172)
      have := m_176.size
      have z_173 := z_171.md m_176 (λ q hq => .inl (List.mem_cons_of_mem _ (List.mem_append.2 (.inr (List.mem_append.2 (.inr hq))))))
      have u_182 := λ q hq => (O_177.lt q hq).2
      have := m_176.size
      refine fw1 rfl (λ _ => nc rfl) <| fw1 rfl (λ _ => fa eF164 rfl) <| ?_
      have hS := hS.later (eT x_162 (eT x_165 x_172))
      have hS := hS.mod m_176 (λ hq => dC _ hq rfl)
      refine fb rfl rfl rfl λ w_184 x_185 Q hK => st (new := [.slice A qb.length a, .slice B qg.length b, .slice A_174 ((qd ++ [(⟨3, o.by_, ⟨0, 0⟩, o.what⟩ : Ded)]).length) c_175]) rfl rfl (hS.later x_185) rfl eF166 rfl rfl rfl λ w_186 m_187 hS => hK _ _ ?_
      have := x_185.size
      have z_184 := z_173.trans (Mod.of_ext x_185)
      have := m_187.size
      have z_186 := z_184.md m_187 (λ q hq => .inl (by rw [List.mem_singleton.1 hq]; exact List.mem_cons_self))
      have := m_187.size
      refine fn λ w_191 x_192 => ?_
      have := x_192.size
      have z_191 := z_186.trans (Mod.of_ext x_192)
      refine nB <| ne <| tR .nil <| ?_
      have hS := hS.later x_192
      have hA := hA.later (eT x_3 (eT x_162 (eT x_165 x_172)))
      have hA := hA.mod m_176 (λ q hq h => by exfalso; (exact dCA q h hq))
      have hA := hA.later x_185
      have hA := hA.mod m_187 (λ q hq h => by have hb := List.mem_singleton.1 h; exfalso; (exact dA q hq hb))
      have hA := hA.later x_192
      have hB := hB.later (eT x_3 (eT x_162 (eT x_165 x_172)))
      have hB := hB.mod m_176 (λ q hq h => by exfalso; (exact dCB q h hq))
      have hB := hB.later x_185
      have hB := hB.mod m_187 (λ q hq h => by have hb := List.mem_singleton.1 h; exfalso; (exact dB q hq hb))
      have hB := hB.later x_192
      have O_177 := O_177.later x_185
      have O_177 := O_177.mod m_187 (λ q hq h => by have hb := List.mem_singleton.1 h; exfalso; (exact Or.elim (g_178 q hq) (λ k_194 => by (exact dC q k_194 hb)) (λ k_194 => by omega)))
      have O_177 := O_177.later x_192
      have e1 : spB o = [] := by unfold spB; simp [*]
      have e2 : spG o = [] := by unfold spG; simp [*]
      have e3 : spD o = [(⟨3, o.by_, ⟨0, 0⟩, o.what⟩ : Ded)] := by unfold spD; simp [*]
      rw [e1, e2, e3]
      simp only [List.append_nil]
      exact ⟨A, a, B, b, A_174, c_175, rfl, hS, hA, hB, O_177, (λ q hq hb => by (exact dA q hq hb)), (λ q hq hb => by (exact dB q hq hb)), (λ q hq hb => by (exact Or.elim (g_178 q hq) (λ k_195 => by (exact dC q k_195 hb)) (λ k_195 => by omega))), (λ q hq hb => by (exact dBA q hq hb)), (λ q hq hb => by (exact Or.elim (g_178 q hq) (λ k_196 => by (exact dCA q k_196 hb)) (λ k_196 => by (have := uA q hb; omega)))), (λ q hq hb => by (exact Or.elim (g_178 q hq) (λ k_197 => by (exact dCB q k_197 hb)) (λ k_197 => by (have := uB q hb; omega)))), (λ q hq => .inl hq), (λ q hq => .inl hq), (λ q hq => (g_178 q hq).imp id λ h => by omega), z_191⟩
     ·refine sk <| nB <| ne <| tR .nil <| ?_
      have hS := hS.later x_3
      have hA := hA.later x_3
      have hB := hB.later x_3
      have hC := hC.later x_3
      have e1 : spB o = [] := by unfold spB; simp [*]
      have e2 : spG o = [] := by unfold spG; simp [*]
      have e3 : spD o = [] := by unfold spD; simp [*]
      rw [e1, e2, e3]
      simp only [List.append_nil]
      exact ⟨A, a, B, b, C, c, rfl, hS, hA, hB, hC, (λ q hq hb => by (exact dA q hq hb)), (λ q hq hb => by (exact dB q hq hb)), (λ q hq hb => by (exact dC q hq hb)), (λ q hq hb => by (exact dBA q hq hb)), (λ q hq hb => by (exact dCA q hq hb)), (λ q hq hb => by (exact dCB q hq hb)), (λ q hq => .inl hq), (λ q hq => .inl hq), (λ q hq => .inl hq), z_1⟩
end
section
open Go.RowKit
theorem ordsE_zero {l : List Odr} (h : ordsE l = 0) : l.length ≤ 100 ∧ ∀ o ∈ l, o.chk = 0 := by
 unfold ordsE at h
 split at h
 ·cases h
 ·refine ⟨by omega, λ o ho => ?_⟩
  split at h
  ·rename_i x hx
   have := List.find?_some hx
   rw [h] at this; exact nomatch this
  ·rename_i hx
   have := List.find?_eq_none.1 hx o ho
   simpa using this
end
section
open Go.RowKit
def ownK (W : Wd) (k : Nat) : List (Int × Int) := (W.troops.take k).map λ t => (t.id, t.owner)
theorem ownK_succ {W : Wd} {k : Nat} (h : k < W.troops.length) : ownK W (k + 1) = ownK W k ++ [((W.troops.getD k default).id, (W.troops.getD k default).owner)] := by
 unfold ownK; rw [take_succ_dd (d := default) h, List.map_append]; rfl
theorem own_new {W : Wd} (hG : Good W) {k : Nat} (h : k < W.troops.length) : getI (ownK W k) (W.troops.getD k default).id = none := by
 unfold getI ownK
 rw [List.find?_map, Option.map_eq_none_iff, Option.map_eq_none_iff, List.find?_eq_none]
 intro x hx
 obtain ⟨i, hi, e⟩ := List.mem_iff_getElem.1 hx
 rw [List.length_take] at hi
 rw [List.getElem_take] at e
 have := (List.pairwise_iff_getElem.1 hG.pw) i k (by omega) h (by omega)
 rw [← e, getD_dd h]
 have h1 := this.1
 simp only [Function.comp_apply, beq_iff_eq]; omega
def may (W : Wd) (o : Odr) : Bool := if o.kind = 5 then decide (o.by_ < (W.bases.length : Int)) && (o.by_ == o.by_) else (getI (ownK W W.troops.length) o.who).isSome && ((getI (ownK W W.troops.length) o.who).getD 0 == o.by_)
def splB (W : Wd) (l : List Odr) (k : Nat) : List Blw := (l.take k).flatMap λ o => if may W o = true then spB o else []
theorem splB_yes {W : Wd} {l : List Odr} {k : Nat} (h : k < l.length) (hm : may W (l.getD k default) = true) : splB W l (k + 1) = splB W l k ++ spB (l.getD k default) := by
 unfold splB; rw [take_succ_dd (d := default) h, List.flatMap_append, List.flatMap_cons, List.flatMap_nil, List.append_nil, if_pos hm]
theorem splB_no {W : Wd} {l : List Odr} {k : Nat} (h : k < l.length) (hm : may W (l.getD k default) = false) : splB W l (k + 1) = splB W l k := by
 unfold splB; rw [take_succ_dd (d := default) h, List.flatMap_append, List.flatMap_cons, List.flatMap_nil, List.append_nil, if_neg (by rw [hm]; decide), List.append_nil]
theorem splB_len (W : Wd) (l : List Odr) : ∀ k, (splB W l k).length ≤ k
 | 0 => by simp [splB]
 | k + 1 => by
  have ih := splB_len W l k
  by_cases h : k < l.length
  ·cases hm : may W (l.getD k default) with
   | true => rw [splB_yes h hm, List.length_append]; have : (spB (l.getD k default)).length ≤ 1 := (by unfold spB; (repeat' split) <;> simp); omega
   | false => rw [splB_no h hm]; omega
  ·have : splB W l (k + 1) = splB W l k := by unfold splB; rw [List.take_of_length_le (by omega), List.take_of_length_le (by omega)]
   rw [this]; omega
def splG (W : Wd) (l : List Odr) (k : Nat) : List Gox := (l.take k).flatMap λ o => if may W o = true then spG o else []
theorem splG_yes {W : Wd} {l : List Odr} {k : Nat} (h : k < l.length) (hm : may W (l.getD k default) = true) : splG W l (k + 1) = splG W l k ++ spG (l.getD k default) := by
 unfold splG; rw [take_succ_dd (d := default) h, List.flatMap_append, List.flatMap_cons, List.flatMap_nil, List.append_nil, if_pos hm]
theorem splG_no {W : Wd} {l : List Odr} {k : Nat} (h : k < l.length) (hm : may W (l.getD k default) = false) : splG W l (k + 1) = splG W l k := by
 unfold splG; rw [take_succ_dd (d := default) h, List.flatMap_append, List.flatMap_cons, List.flatMap_nil, List.append_nil, if_neg (by rw [hm]; decide), List.append_nil]
theorem splG_len (W : Wd) (l : List Odr) : ∀ k, (splG W l k).length ≤ k
 | 0 => by simp [splG]
 | k + 1 => by
  have ih := splG_len W l k
  by_cases h : k < l.length
  ·cases hm : may W (l.getD k default) with
   | true => rw [splG_yes h hm, List.length_append]; have : (spG (l.getD k default)).length ≤ 1 := (by unfold spG; (repeat' split) <;> simp); omega
   | false => rw [splG_no h hm]; omega
  ·have : splG W l (k + 1) = splG W l k := by unfold splG; rw [List.take_of_length_le (by omega), List.take_of_length_le (by omega)]
   rw [this]; omega
def splD (W : Wd) (l : List Odr) (k : Nat) : List Ded := (l.take k).flatMap λ o => if may W o = true then spD o else []
theorem splD_yes {W : Wd} {l : List Odr} {k : Nat} (h : k < l.length) (hm : may W (l.getD k default) = true) : splD W l (k + 1) = splD W l k ++ spD (l.getD k default) := by
 unfold splD; rw [take_succ_dd (d := default) h, List.flatMap_append, List.flatMap_cons, List.flatMap_nil, List.append_nil, if_pos hm]
theorem splD_no {W : Wd} {l : List Odr} {k : Nat} (h : k < l.length) (hm : may W (l.getD k default) = false) : splD W l (k + 1) = splD W l k := by
 unfold splD; rw [take_succ_dd (d := default) h, List.flatMap_append, List.flatMap_cons, List.flatMap_nil, List.append_nil, if_neg (by rw [hm]; decide), List.append_nil]
theorem splD_len (W : Wd) (l : List Odr) : ∀ k, (splD W l k).length ≤ k
 | 0 => by simp [splD]
 | k + 1 => by
  have ih := splD_len W l k
  by_cases h : k < l.length
  ·cases hm : may W (l.getD k default) with
   | true => rw [splD_yes h hm, List.length_append]; have : (spD (l.getD k default)).length ≤ 1 := (by unfold spD; (repeat' split) <;> simp); omega
   | false => rw [splD_no h hm]; omega
  ·have : splD W l (k + 1) = splD W l k := by unfold splD; rw [List.take_of_length_le (by omega), List.take_of_length_le (by omega)]
   rw [this]; omega
theorem spl_len (W : Wd) (l : List Odr) (k : Nat) : (splB W l k).length ≤ k ∧ (splG W l k).length ≤ k ∧ (splD W l k).length ≤ k := ⟨splB_len W l k, splG_len W l k, splD_len W l k⟩
theorem split_any (A : Option Addr) (c : Nat) (l : List Odr) (aw : Wd.At) (W : Wd) (w : World) (hl : Odr.rep.SHas 48 w A c l) (hW : Wd.Has w aw W) :
  Calls Try.prog 55 #[.slice A l.length c, .agg ((Wd.cells aw W).toArray)] w (λ e w' => ∃ A0 c0 A1 c1 A2 c2, ((ordsE l ≠ 0 ∧ e = .returned (.tuple #[.slice none 0 0, .slice none 0 0, .slice none 0 0, .int .i64 (ordsE l)])) ∨ (ordsE l = 0 ∧ W.chk ≠ 0 ∧ e = .returned (.tuple #[.slice none 0 0, .slice none 0 0, .slice none 0 0, .int .i64 W.chk])) ∨ (ordsE l = 0 ∧ W.chk = 0 ∧ e = .returned (.tuple #[.slice A0 (splB W l l.length).length c0, .slice A1 (splG W l l.length).length c1, .slice A2 (splD W l l.length).length c2, .int .i64 0]) ∧ Blw.rep.SOwn 193 16 w' w.heap.size (Rep.blkOf A0) A0 c0 (splB W l l.length) ∧ Gox.rep.SOwn 195 24 w' w.heap.size (Rep.blkOf A1) A1 c1 (splG W l l.length) ∧ Ded.rep.SOwn 159 40 w' w.heap.size (Rep.blkOf A2) A2 c2 (splD W l l.length))) ∧ Ext w w') := by
 have hll := hl.len_le
 refine calls_W (n := 82) Try.func55 rfl rfl rfl ?_
 refine sg <| bx rfl rfl rfl rfl λ w_1 b_2 x_3 l_4 B_5 => ?_
 have := x_3.size
 have z_1 := eT (Ext.rf w) x_3
 have q_7 := B_5.lt
 refine va rfl <| va rfl <| va rfl <| va rfl <| nK <| sq <| sg <| vm rfl <| ca eF167 rfl rfl ((oall_any _ _ l _ (hl.keep z_1)).mono ?_)
 rintro e w_8 ⟨rfl, x_9⟩
 refine ⟨_, rfl, ?_⟩
 have := x_9.size
 have z_8 := eT z_1 x_9
 refine va rfl <| nK <| sg <| vm rfl <| vL (bne rfl rfl) <| nK <| ?_
 refine cne rfl (λ h_11 => ?_) (λ h_11 => ?_)
 ·refine sg <| vm rfl <| va rfl <| va rfl <| va rfl <| va rfl <| nK <| rt <| tT <| tR (.tmp rfl (.tmp rfl (.tmp rfl (.tmp rfl .nil)))) <| ?_
  exact ⟨none, 0, none, 0, none, 0, .inl ⟨h_11, rfl⟩, z_8⟩
 ·obtain ⟨hl100, _⟩ := ordsE_zero (by simpa using h_11)
  refine sK <| sq <| sg <| ?_
  have B_5 := B_5.later x_9
  refine vL (ld rfl (B_5.all eF54 eF55)) <| ca eF56 rfl rfl ((check_any aw W _ (hW.keep z_8)).mono ?_)
  rintro e w_12 ⟨rfl, x_13⟩
  refine ⟨_, rfl, ?_⟩
  have := x_13.size
  have z_12 := eT z_8 x_13
  refine va rfl <| nK <| sg <| vm rfl <| vL (bne rfl rfl) <| nK <| ?_
  refine cne rfl (λ h_15 => ?_) (λ h_15 => ?_)
  ·refine sg <| vm rfl <| va rfl <| va rfl <| va rfl <| va rfl <| nK <| rt <| tT <| tR (.tmp rfl (.tmp rfl (.tmp rfl (.tmp rfl .nil)))) <| ?_
   exact ⟨none, 0, none, 0, none, 0, .inr (.inl ⟨by simpa using h_11, h_15, rfl⟩), z_12⟩
  ·have hG := Good.of_chk (by simpa using h_15)
   have hnt := hG.nt
   have hnb := hG.nb
   refine sK <| sg <| mm rfl λ w_16 r_17 x_18 l_19 M_20 => ?_
   have := x_18.size
   have z_16 := eT z_12 x_18
   have q_22 := M_20.lt
   refine va rfl <| nK <| sq <| sg <| vL (fa eF35 rfl) <| ?_
   have B_5 := B_5.later (eT x_13 x_18)
   refine vL (ld rfl (B_5.one eF36 rfl)) <| vL (ln Try.underlying56 rfl) <| vm rfl <| nK <| bk <| ?_
   refine lp (λ mI EI wI => ∃ k : Nat, EI = [(0, .slice A l.length c), (3, .pointer (some ⟨b_2, 0, none⟩)), (4, .slice none 0 0), (5, .slice none 0 0), (6, .slice none 0 0), (7, .int .i64 0), (10, .map (some r_17)), (30, .slice aw.T W.troops.length aw.t), (31, .int .i64 (W.troops.length : Int)), (32, .int .i64 (k : Int))] ∧ mI = W.troops.length - k ∧ Ext w wI ∧ Blk wI b_2 (Wd.cells aw W) 58 (0, 0) ∧ MapI wI r_17 (ownK W k) ∧ (k ≤ W.troops.length)) _ _ ⟨0, rfl, rfl, z_16, B_5, M_20, by omega⟩ (.cons rfl (.cons rfl (.cons rfl (.cons rfl (.cons rfl (.cons rfl (.cons rfl (.cons rfl (.cons rfl (.cons (loI rfl (by first | omega | rfl | (simp <;> omega))) .nil)))))))))) ?_
   rintro m_24 E_25 w_23 ⟨k, rfl, rfl, z_23, B_5, M1, hk⟩
   have := z_23.size
   have q_27 := B_5.lt
   have q_28 := M1.lt
   refine sg <| vL (blt rfl rfl) <| nK <| sq <| ?_
   refine clt rfl (λ h_29 => ?_) (λ h_29 => ?_)
   ·refine sK <| sq <| bk <| sg <| vL (iA k Try.underlying56 eF0 rfl rfl ((hW.T.keep z_23).adr (zl k (by omega))) rfl (by omega)) <| vL (ld rfl (Rep.SHas.elt hcT ((hW.T.keep z_23).adh (zl k (by omega))) (get_d (l := W.troops) (u := default) (by omega)) eF1 eF0)) <| al rfl eF3 rfl rfl λ w_30 b_31 x_32 l_33 B_34 => ?_
    have := x_32.size
    have z_30 := eT z_23 x_32
    have q_36 := B_34.lt
    refine st (new := [.int .i64 ((W.troops.getD k default).id), .int .i64 ((W.troops.getD k default).owner), .int .i64 ((W.troops.getD k default).kind), .int .i64 ((W.troops.getD k default).spot.x), .int .i64 ((W.troops.getD k default).spot.y), .int .i64 ((W.troops.getD k default).life), .int .i64 ((W.troops.getD k default).load)]) rfl rfl B_34 rfl eF0 rfl rfl rfl λ w_37 m_38 B_34 => ?_
    have := m_38.size
    have z_37 := Ext.mod z_30 m_38 (ge1 (by omega))
    have := m_38.size
    refine nK <| rg <| vm rfl <| vL (fa eF83 rfl) <| vL (ld rfl (B_34.one eF5 rfl)) <| vL (fa eF33 rfl) <| vL (ld rfl (B_34.one eF5 rfl)) <| ?_
    have M1 := M1.later x_32
    have M1 := M1.mod m_38 (nm1 (by omega))
    refine mu Try.underlying149 Try.underlying3 M1 (own_new hG (by omega)) rfl rfl rfl λ w_41 m_42 M1 => ?_
    have := m_42.size
    have z_41 := Ext.mod z_37 m_42 (ge1 (by omega))
    have := m_42.size
    refine nl <| nB <| nT <| rg <| vL (bad rfl rfl (inI (by omega))) <| vm rfl <| nl <| ?_
    have e1 : ownK W (k + 1) = ownK W k ++ [((W.troops.getD k default).id, (W.troops.getD k default).owner)] := ownK_succ (by omega)
    have B_5 := B_5.later x_32
    have B_5 := B_5.mod m_38 (nm1 (by omega))
    have B_5 := B_5.mod m_42 (nm1 (by omega))
    exact nI _ _ ⟨k + 1, rfl, rfl, z_41, B_5, (by rw [e1]; exact M1), by omega⟩ (by omega) (.cons rfl (.cons rfl (.cons rfl (.cons rfl (.cons rfl (.cons rfl (.cons rfl (.cons rfl (.cons rfl (.cons (loI rfl (by first | omega | rfl | (simp <;> omega))) .nil))))))))))
   ·refine xt <| xT <| xK <| xB <| nT <| sg <| al rfl eF168 rfl rfl λ w_45 b_46 x_47 l_48 B_49 => ?_
    have := x_47.size
    have z_45 := eT z_23 x_47
    have q_51 := B_49.lt
    refine nK <| sq <| sg <| vm rfl <| vL (ln Try.underlying59 rfl) <| vm rfl <| nK <| bk <| ?_
    have ek : k = W.troops.length := by omega
    subst ek
    have B_5 := B_5.later x_47
    have M1 := M1.later x_47
    refine lp (λ mI EI wI => ∃ j : Nat, ∃ A0 : Option Addr, ∃ c0 : Nat, ∃ A1 : Option Addr, ∃ c1 : Nat, ∃ A2 : Option Addr, ∃ c2 : Nat, EI = [(3, .pointer (some ⟨b_2, 0, none⟩)), (4, .slice none 0 0), (5, .slice none 0 0), (6, .slice none 0 0), (7, .int .i64 0), (10, .map (some r_17)), (13, .pointer (some ⟨b_46, 0, none⟩)), (42, .slice A l.length c), (43, .int .i64 (l.length : Int)), (44, .int .i64 (j : Int))] ∧ mI = l.length - j ∧ Ext w wI ∧ Blk wI b_2 (Wd.cells aw W) 58 (0, 0) ∧ MapI wI r_17 (ownK W W.troops.length) ∧ Blk wI b_46 [.slice A0 ((splB W l j).length) c0, .slice A1 ((splG W l j).length) c1, .slice A2 ((splD W l j).length) c2] 151 (0, 0) ∧ Blw.rep.SOwn 193 16 wI w.heap.size (Rep.blkOf A0) A0 c0 (splB W l j) ∧ Gox.rep.SOwn 195 24 wI w.heap.size (Rep.blkOf A1) A1 c1 (splG W l j) ∧ Ded.rep.SOwn 159 40 wI w.heap.size (Rep.blkOf A2) A2 c2 (splD W l j) ∧ (j ≤ l.length) ∧ (∀ q ∈ Rep.blkOf A0, q = b_2 → False) ∧ (∀ q ∈ Rep.blkOf A0, q = r_17 → False) ∧ (∀ q ∈ Rep.blkOf A0, q = b_46 → False) ∧ (∀ q ∈ Rep.blkOf A1, q = b_2 → False) ∧ (∀ q ∈ Rep.blkOf A1, q = r_17 → False) ∧ (∀ q ∈ Rep.blkOf A1, q = b_46 → False) ∧ (∀ q ∈ Rep.blkOf A1, q ∈ Rep.blkOf A0 → False) ∧ (∀ q ∈ Rep.blkOf A2, q = b_2 → False) ∧ (∀ q ∈ Rep.blkOf A2, q = r_17 → False) ∧ (∀ q ∈ Rep.blkOf A2, q = b_46 → False) ∧ (∀ q ∈ Rep.blkOf A2, q ∈ Rep.blkOf A0 → False) ∧ (∀ q ∈ Rep.blkOf A2, q ∈ Rep.blkOf A1 → False)) _ _ ⟨0, none, 0, none, 0, none, 0, rfl, rfl, z_45, B_5, M1, B_49, (Rep.SOwn.nil _), (Rep.SOwn.nil _), (Rep.SOwn.nil _), by omega, (λ q hq hb => by (simp [Rep.blkOf] at hq)), (λ q hq hb => by (simp [Rep.blkOf] at hq)), (λ q hq hb => by (simp [Rep.blkOf] at hq)), (λ q hq hb => by (simp [Rep.blkOf] at hq)), (λ q hq hb => by (simp [Rep.blkOf] at hq)), (λ q hq hb => by (simp [Rep.blkOf] at hq)), (λ q hq hb => by (simp [Rep.blkOf] at hq)), (λ q hq hb => by (simp [Rep.blkOf] at hq)), (λ q hq hb => by (simp [Rep.blkOf] at hq)), (λ q hq hb => by (simp [Rep.blkOf] at hq)), (λ q hq hb => by (simp [Rep.blkOf] at hq)), (λ q hq hb => by (simp [Rep.blkOf] at hq))⟩ (.cons rfl (.cons rfl (.cons rfl (.cons rfl (.cons rfl (.cons rfl (.cons rfl (.cons rfl (.cons rfl (.cons (loI rfl (by first | omega | rfl | (simp <;> omega))) .nil)))))))))) ?_
    rintro m_65 E_66 w_64 ⟨j, A0, c0, A1, c1, A2, c2, rfl, rfl, z_64, B_5, M1, BS, OS0, OS1, OS2, hj, d_52, d_53, d_54, d_55, d_56, d_57, d_58, d_59, d_60, d_61, d_62, d_63⟩
    have := z_64.size
    have q_68 := B_5.lt
    have q_69 := M1.lt
    have q_70 := BS.lt
    have u_71 := λ q hq => (OS0.lt q hq).2
    have u_72 := λ q hq => (OS1.lt q hq).2
    have u_73 := λ q hq => (OS2.lt q hq).2
    have hsl := spl_len W l j
    refine sg <| vL (blt rfl rfl) <| nK <| sq <| ?_
    refine clt rfl (λ h_74 => ?_) (λ h_74 => ?_)
    ·have hox := Odr.all_ok hl _ (mem_dd (d := default) (show j < l.length by omega))
     refine sK <| sq <| bk <| sg <| vL (iA j Try.underlying59 eF153 rfl rfl ((hl.keep z_64).adr (zl j (by omega))) rfl (by omega)) <| vL (ld rfl (Rep.SHas.elt hcO ((hl.keep z_64).adh (zl j (by omega))) (get_d (l := l) (u := default) (by omega)) eF152 eF153)) <| al rfl eF147 rfl rfl λ w_75 b_76 x_77 l_78 B_79 => ?_
     have := x_77.size
     have z_75 := eT z_64 x_77
     have q_81 := B_79.lt
     refine st (new := [.int .i64 ((l.getD j default).by_), .int .i64 ((l.getD j default).kind), .int .i64 ((l.getD j default).who), .int .i64 ((l.getD j default).spot.x), .int .i64 ((l.getD j default).spot.y), .int .i64 ((l.getD j default).what)]) rfl rfl B_79 rfl eF153 rfl rfl rfl λ w_82 m_83 B_79 => ?_
     have := m_83.size
     have z_82 := Ext.mod z_75 m_83 (ge1 (by omega))
     have := m_83.size
     refine nK <| sg <| vm rfl <| vL (fa eF149 rfl) <| vL (ld rfl (B_79.one eF5 rfl)) <| ?_
     have M1 := M1.later x_77
     have M1 := M1.mod m_83 (nm1 (by omega))
     refine vL (lk Try.underlying149 Try.underlying3 eF128 M1 rfl rfl) <| vm rfl <| vL (ex rfl rfl) <| vL (ex rfl rfl) <| va rfl <| va rfl <| nK <| sq <| sg <| vL (fa eF148 rfl) <| vL (ld rfl (B_79.one eF5 rfl)) <| vL (beq rfl rfl) <| nK <| ?_
     refine ceq rfl (λ h_86 => ?_) (λ h_86 => ?_)
     ·refine rd [(1, 0), (3, 0), (5, 0)] [0, 1, 2, 3, 4, 5, 6, 7, 8, 9] (by kernel_rfl) (by kernel_rfl) ?_
      refine fw1 rfl (λ _ => fa eF154 rfl) <| fq1 rfl (λ _ x => ld rfl ((B_79.later x).one eF5 rfl)) <| fw1 rfl (λ _ => fa eF154 rfl) <| fq1 rfl (λ _ x => ld rfl ((B_79.later x).one eF5 rfl)) <| fw1 rfl (λ _ => fa eF31 rfl) <| ?_
      have B_5 := B_5.later x_77
      have B_5 := B_5.mod m_83 (nm1 (by omega))
      refine fq1 rfl (λ _ x => ld rfl ((B_5.later x).one eF32 rfl)) <| fw1 rfl (λ _ => ln Try.underlying55 rfl) <| fw1 rfl (λ _ => blt rfl rfl) <| fw1 rfl (λ _ => as_ rfl) <| fw1 rfl (λ _ => as_ rfl) <| fn λ w_87 x_88 => ?_
      have := x_88.size
      have z_87 := eT z_82 x_88
      refine nT <| sg <| vm rfl <| vm rfl <| vQ rfl rfl rfl rfl (λ hc => mv rfl) rfl <| vQ rfl rfl rfl rfl (λ hc => fa eF154 rfl) rfl <| ?_
      have B_79 := B_79.later x_88
      refine vQ rfl rfl rfl rfl (λ hc => ld (gt hc rfl) (B_79.one eF5 rfl)) rfl <| vQ rfl rfl rfl rfl (λ hc => beq (gt hc rfl) (gt hc rfl)) rfl <| vL (pA rfl rfl rfl rfl) <| nK <| ?_
      refine cb rfl (λ h_90 => ?_) (λ h_90 => ?_)
      ·have hmay : may W (l.getD j default) = true := by unfold may; rw [if_pos h_86]; rw [← h_90]
       refine rg <| vL (ld rfl (B_79.all eF152 eF153)) <| ?_
       have BS := BS.later x_77
       have BS := BS.mod m_83 (nm1 (by omega))
       have BS := BS.later x_88
       have OS0 := OS0.later x_77
       have OS0 := OS0.mod m_83 (fk1 u_71 (by omega))
       have OS0 := OS0.later x_88
       have OS1 := OS1.later x_77
       have OS1 := OS1.mod m_83 (fk1 u_72 (by omega))
       have OS1 := OS1.later x_88
       have OS2 := OS2.later x_77
       have OS2 := OS2.mod m_83 (fk1 u_73 (by omega))
       have OS2 := OS2.later x_88
       have gq_91 : ∀ q ∈ (b_46 :: (Rep.blkOf A0 ++ (Rep.blkOf A1 ++ Rep.blkOf A2))), w.heap.size ≤ q := by
        intro q hq
        simp only [List.mem_cons, List.mem_append] at hq
        rcases hq with hq | hq | hq | hq
        ·omega
        ·exact (OS0.lt q hq).1
        ·exact (OS1.lt q hq).1
        ·exact (OS2.lt q hq).1
       refine ca eF169 rfl rfl ((add_any (l.getD j default) w b_46 _ _ _ _ _ _ _ _ _ _ z_87 hox BS OS0 OS1 OS2 (λ q hq hb => by (exact d_54 q hq hb)) (λ q hq hb => by (exact d_57 q hq hb)) (λ q hq hb => by (exact d_61 q hq hb)) (λ q hq hb => by (exact d_58 q hq hb)) (λ q hq hb => by (exact d_62 q hq hb)) (λ q hq hb => by (exact d_63 q hq hb)) (by omega) (by omega) (by omega)).mono ?_)
       rintro e w_93 ⟨A_910, c_910, A_911, c_911, A_912, c_912, rfl, B_91, O_910, O_911, O_912, ds_910, ds_911, ds_912, dp_9110, dp_9120, dp_9121, g_910, g_911, g_912, m_92⟩
       refine ⟨_, rfl, ?_⟩
       have := m_92.size
       have z_93 := Ext.mod z_87 m_92 gq_91
       have u_95 := λ q hq => (O_910.lt q hq).2
       have u_96 := λ q hq => (O_911.lt q hq).2
       have u_97 := λ q hq => (O_912.lt q hq).2
       refine nl <| nB <| nT <| rg <| vL (bad rfl rfl (inI (by omega))) <| vm rfl <| nl <| ?_
       have e2 : splB W l (j + 1) = splB W l j ++ spB (l.getD j default) := splB_yes (by omega) hmay
       have e3 : splG W l (j + 1) = splG W l j ++ spG (l.getD j default) := splG_yes (by omega) hmay
       have e4 : splD W l (j + 1) = splD W l j ++ spD (l.getD j default) := splD_yes (by omega) hmay
       have B_5 := B_5.later x_88
       have np_98 : b_2 ∉ (b_46 :: (Rep.blkOf A0 ++ (Rep.blkOf A1 ++ Rep.blkOf A2))) := by
        intro hq
        simp only [List.mem_cons, List.mem_append] at hq
        rcases hq with hq | hq | hq | hq
        ·omega
        ·exact (λ q (h1 : q ∈ Rep.blkOf A0) (h2 : q = b_2) => show False by (exact d_52 q h1 h2)) _ hq rfl
        ·exact (λ q (h1 : q ∈ Rep.blkOf A1) (h2 : q = b_2) => show False by (exact d_55 q h1 h2)) _ hq rfl
        ·exact (λ q (h1 : q ∈ Rep.blkOf A2) (h2 : q = b_2) => show False by (exact d_59 q h1 h2)) _ hq rfl
       have B_5 := B_5.mod m_92 np_98
       have M1 := M1.later x_88
       have np_99 : r_17 ∉ (b_46 :: (Rep.blkOf A0 ++ (Rep.blkOf A1 ++ Rep.blkOf A2))) := by
        intro hq
        simp only [List.mem_cons, List.mem_append] at hq
        rcases hq with hq | hq | hq | hq
        ·omega
        ·exact (λ q (h1 : q ∈ Rep.blkOf A0) (h2 : q = r_17) => show False by (exact d_53 q h1 h2)) _ hq rfl
        ·exact (λ q (h1 : q ∈ Rep.blkOf A1) (h2 : q = r_17) => show False by (exact d_56 q h1 h2)) _ hq rfl
        ·exact (λ q (h1 : q ∈ Rep.blkOf A2) (h2 : q = r_17) => show False by (exact d_60 q h1 h2)) _ hq rfl
       have M1 := M1.mod m_92 np_99
       exact nI _ _ ⟨j + 1, A_910, c_910, A_911, c_911, A_912, c_912, rfl, rfl, z_93, B_5, M1, (by rw [e2, e3, e4]; exact B_91), (by rw [e2]; exact O_910), (by rw [e3]; exact O_911), (by rw [e4]; exact O_912), by omega, (λ q hq hb => by (exact Or.elim (g_910 q hq) (λ k_100 => by (exact d_52 q k_100 hb)) (λ k_100 => by omega))), (λ q hq hb => by (exact Or.elim (g_910 q hq) (λ k_101 => by (exact d_53 q k_101 hb)) (λ k_101 => by omega))), (λ q hq hb => by (exact ds_910 q hq hb)), (λ q hq hb => by (exact Or.elim (g_911 q hq) (λ k_102 => by (exact d_55 q k_102 hb)) (λ k_102 => by omega))), (λ q hq hb => by (exact Or.elim (g_911 q hq) (λ k_103 => by (exact d_56 q k_103 hb)) (λ k_103 => by omega))), (λ q hq hb => by (exact ds_911 q hq hb)), (λ q hq hb => by (exact dp_9110 q hq hb)), (λ q hq hb => by (exact Or.elim (g_912 q hq) (λ k_104 => by (exact d_59 q k_104 hb)) (λ k_104 => by omega))), (λ q hq hb => by (exact Or.elim (g_912 q hq) (λ k_105 => by (exact d_60 q k_105 hb)) (λ k_105 => by omega))), (λ q hq hb => by (exact ds_912 q hq hb)), (λ q hq hb => by (exact dp_9120 q hq hb)), (λ q hq hb => by (exact dp_9121 q hq hb))⟩ (by omega) (.cons rfl (.cons rfl (.cons rfl (.cons rfl (.cons rfl (.cons rfl (.cons rfl (.cons rfl (.cons rfl (.cons (loI rfl (by first | omega | rfl | (simp <;> omega))) .nil))))))))))
      ·have hmay : may W (l.getD j default) = false := by unfold may; rw [if_pos h_86]; rw [← h_90]
       refine sk <| nB <| nT <| rg <| vL (bad rfl rfl (inI (by omega))) <| vm rfl <| nl <| ?_
       have e2 : splB W l (j + 1) = splB W l j := splB_no (by omega) hmay
       have e3 : splG W l (j + 1) = splG W l j := splG_no (by omega) hmay
       have e4 : splD W l (j + 1) = splD W l j := splD_no (by omega) hmay
       have B_5 := B_5.later x_88
       have M1 := M1.later x_88
       have BS := BS.later x_77
       have BS := BS.mod m_83 (nm1 (by omega))
       have BS := BS.later x_88
       have OS0 := OS0.later x_77
       have OS0 := OS0.mod m_83 (fk1 u_71 (by omega))
       have OS0 := OS0.later x_88
       have OS1 := OS1.later x_77
       have OS1 := OS1.mod m_83 (fk1 u_72 (by omega))
       have OS1 := OS1.later x_88
       have OS2 := OS2.later x_77
       have OS2 := OS2.mod m_83 (fk1 u_73 (by omega))
       have OS2 := OS2.later x_88
       exact nI _ _ ⟨j + 1, A0, c0, A1, c1, A2, c2, rfl, rfl, z_87, B_5, M1, (by rw [e2, e3, e4]; exact BS), (by rw [e2]; exact OS0), (by rw [e3]; exact OS1), (by rw [e4]; exact OS2), by omega, (λ q hq hb => by (exact d_52 q hq hb)), (λ q hq hb => by (exact d_53 q hq hb)), (λ q hq hb => by (exact d_54 q hq hb)), (λ q hq hb => by (exact d_55 q hq hb)), (λ q hq hb => by (exact d_56 q hq hb)), (λ q hq hb => by (exact d_57 q hq hb)), (λ q hq hb => by (exact d_58 q hq hb)), (λ q hq hb => by (exact d_59 q hq hb)), (λ q hq hb => by (exact d_60 q hq hb)), (λ q hq hb => by (exact d_61 q hq hb)), (λ q hq hb => by (exact d_62 q hq hb)), (λ q hq hb => by (exact d_63 q hq hb))⟩ (by omega) (.cons rfl (.cons rfl (.cons rfl (.cons rfl (.cons rfl (.cons rfl (.cons rfl (.cons rfl (.cons rfl (.cons (loI rfl (by first | omega | rfl | (simp <;> omega))) .nil))))))))))
     ·refine sK <| sg <| vm rfl <| vm rfl <| vQ rfl rfl rfl rfl (λ hc => mv rfl) rfl <| vQ rfl rfl rfl rfl (λ hc => fa eF154 rfl) rfl <| vQ rfl rfl rfl rfl (λ hc => ld (gt hc rfl) (B_79.one eF5 rfl)) rfl <| vQ rfl rfl rfl rfl (λ hc => beq (gt hc rfl) (gt hc rfl)) rfl <| vL (pA rfl rfl rfl rfl) <| nK <| ?_
      refine cb rfl (λ h_106 => ?_) (λ h_106 => ?_)
      ·have hmay : may W (l.getD j default) = true := by unfold may; rw [if_neg h_86]; rw [← h_106]
       refine rg <| vL (ld rfl (B_79.all eF152 eF153)) <| ?_
       have BS := BS.later x_77
       have BS := BS.mod m_83 (nm1 (by omega))
       have OS0 := OS0.later x_77
       have OS0 := OS0.mod m_83 (fk1 u_71 (by omega))
       have OS1 := OS1.later x_77
       have OS1 := OS1.mod m_83 (fk1 u_72 (by omega))
       have OS2 := OS2.later x_77
       have OS2 := OS2.mod m_83 (fk1 u_73 (by omega))
       have gq_107 : ∀ q ∈ (b_46 :: (Rep.blkOf A0 ++ (Rep.blkOf A1 ++ Rep.blkOf A2))), w.heap.size ≤ q := by
        intro q hq
        simp only [List.mem_cons, List.mem_append] at hq
        rcases hq with hq | hq | hq | hq
        ·omega
        ·exact (OS0.lt q hq).1
        ·exact (OS1.lt q hq).1
        ·exact (OS2.lt q hq).1
       refine ca eF169 rfl rfl ((add_any (l.getD j default) w b_46 _ _ _ _ _ _ _ _ _ _ z_82 hox BS OS0 OS1 OS2 (λ q hq hb => by (exact d_54 q hq hb)) (λ q hq hb => by (exact d_57 q hq hb)) (λ q hq hb => by (exact d_61 q hq hb)) (λ q hq hb => by (exact d_58 q hq hb)) (λ q hq hb => by (exact d_62 q hq hb)) (λ q hq hb => by (exact d_63 q hq hb)) (by omega) (by omega) (by omega)).mono ?_)
       rintro e w_109 ⟨A_1070, c_1070, A_1071, c_1071, A_1072, c_1072, rfl, B_107, O_1070, O_1071, O_1072, ds_1070, ds_1071, ds_1072, dp_10710, dp_10720, dp_10721, g_1070, g_1071, g_1072, m_108⟩
       refine ⟨_, rfl, ?_⟩
       have := m_108.size
       have z_109 := Ext.mod z_82 m_108 gq_107
       have u_111 := λ q hq => (O_1070.lt q hq).2
       have u_112 := λ q hq => (O_1071.lt q hq).2
       have u_113 := λ q hq => (O_1072.lt q hq).2
       refine nl <| nB <| nT <| rg <| vL (bad rfl rfl (inI (by omega))) <| vm rfl <| nl <| ?_
       have e2 : splB W l (j + 1) = splB W l j ++ spB (l.getD j default) := splB_yes (by omega) hmay
       have e3 : splG W l (j + 1) = splG W l j ++ spG (l.getD j default) := splG_yes (by omega) hmay
       have e4 : splD W l (j + 1) = splD W l j ++ spD (l.getD j default) := splD_yes (by omega) hmay
       have B_5 := B_5.later x_77
       have B_5 := B_5.mod m_83 (nm1 (by omega))
       have np_114 : b_2 ∉ (b_46 :: (Rep.blkOf A0 ++ (Rep.blkOf A1 ++ Rep.blkOf A2))) := by
        intro hq
        simp only [List.mem_cons, List.mem_append] at hq
        rcases hq with hq | hq | hq | hq
        ·omega
        ·exact (λ q (h1 : q ∈ Rep.blkOf A0) (h2 : q = b_2) => show False by (exact d_52 q h1 h2)) _ hq rfl
        ·exact (λ q (h1 : q ∈ Rep.blkOf A1) (h2 : q = b_2) => show False by (exact d_55 q h1 h2)) _ hq rfl
        ·exact (λ q (h1 : q ∈ Rep.blkOf A2) (h2 : q = b_2) => show False by (exact d_59 q h1 h2)) _ hq rfl
       have B_5 := B_5.mod m_108 np_114
       have np_115 : r_17 ∉ (b_46 :: (Rep.blkOf A0 ++ (Rep.blkOf A1 ++ Rep.blkOf A2))) := by
        intro hq
        simp only [List.mem_cons, List.mem_append] at hq
        rcases hq with hq | hq | hq | hq
        ·omega
        ·exact (λ q (h1 : q ∈ Rep.blkOf A0) (h2 : q = r_17) => show False by (exact d_53 q h1 h2)) _ hq rfl
        ·exact (λ q (h1 : q ∈ Rep.blkOf A1) (h2 : q = r_17) => show False by (exact d_56 q h1 h2)) _ hq rfl
        ·exact (λ q (h1 : q ∈ Rep.blkOf A2) (h2 : q = r_17) => show False by (exact d_60 q h1 h2)) _ hq rfl
       have M1 := M1.mod m_108 np_115
       exact nI _ _ ⟨j + 1, A_1070, c_1070, A_1071, c_1071, A_1072, c_1072, rfl, rfl, z_109, B_5, M1, (by rw [e2, e3, e4]; exact B_107), (by rw [e2]; exact O_1070), (by rw [e3]; exact O_1071), (by rw [e4]; exact O_1072), by omega, (λ q hq hb => by (exact Or.elim (g_1070 q hq) (λ k_116 => by (exact d_52 q k_116 hb)) (λ k_116 => by omega))), (λ q hq hb => by (exact Or.elim (g_1070 q hq) (λ k_117 => by (exact d_53 q k_117 hb)) (λ k_117 => by omega))), (λ q hq hb => by (exact ds_1070 q hq hb)), (λ q hq hb => by (exact Or.elim (g_1071 q hq) (λ k_118 => by (exact d_55 q k_118 hb)) (λ k_118 => by omega))), (λ q hq hb => by (exact Or.elim (g_1071 q hq) (λ k_119 => by (exact d_56 q k_119 hb)) (λ k_119 => by omega))), (λ q hq hb => by (exact ds_1071 q hq hb)), (λ q hq hb => by (exact dp_10710 q hq hb)), (λ q hq hb => by (exact Or.elim (g_1072 q hq) (λ k_120 => by (exact d_59 q k_120 hb)) (λ k_120 => by omega))), (λ q hq hb => by (exact Or.elim (g_1072 q hq) (λ k_121 => by (exact d_60 q k_121 hb)) (λ k_121 => by omega))), (λ q hq hb => by (exact ds_1072 q hq hb)), (λ q hq hb => by (exact dp_10720 q hq hb)), (λ q hq hb => by (exact dp_10721 q hq hb))⟩ (by omega) (.cons rfl (.cons rfl (.cons rfl (.cons rfl (.cons rfl (.cons rfl (.cons rfl (.cons rfl (.cons rfl (.cons (loI rfl (by first | omega | rfl | (simp <;> omega))) .nil))))))))))
      ·have hmay : may W (l.getD j default) = false := by unfold may; rw [if_neg h_86]; rw [← h_106]
       refine sk <| nB <| nT <| rg <| vL (bad rfl rfl (inI (by omega))) <| vm rfl <| nl <| ?_
       have e2 : splB W l (j + 1) = splB W l j := splB_no (by omega) hmay
       have e3 : splG W l (j + 1) = splG W l j := splG_no (by omega) hmay
       have e4 : splD W l (j + 1) = splD W l j := splD_no (by omega) hmay
       have B_5 := B_5.later x_77
       have B_5 := B_5.mod m_83 (nm1 (by omega))
       have BS := BS.later x_77
       have BS := BS.mod m_83 (nm1 (by omega))
       have OS0 := OS0.later x_77
       have OS0 := OS0.mod m_83 (fk1 u_71 (by omega))
       have OS1 := OS1.later x_77
       have OS1 := OS1.mod m_83 (fk1 u_72 (by omega))
       have OS2 := OS2.later x_77
       have OS2 := OS2.mod m_83 (fk1 u_73 (by omega))
       exact nI _ _ ⟨j + 1, A0, c0, A1, c1, A2, c2, rfl, rfl, z_82, B_5, M1, (by rw [e2, e3, e4]; exact BS), (by rw [e2]; exact OS0), (by rw [e3]; exact OS1), (by rw [e4]; exact OS2), by omega, (λ q hq hb => by (exact d_52 q hq hb)), (λ q hq hb => by (exact d_53 q hq hb)), (λ q hq hb => by (exact d_54 q hq hb)), (λ q hq hb => by (exact d_55 q hq hb)), (λ q hq hb => by (exact d_56 q hq hb)), (λ q hq hb => by (exact d_57 q hq hb)), (λ q hq hb => by (exact d_58 q hq hb)), (λ q hq hb => by (exact d_59 q hq hb)), (λ q hq hb => by (exact d_60 q hq hb)), (λ q hq hb => by (exact d_61 q hq hb)), (λ q hq hb => by (exact d_62 q hq hb)), (λ q hq hb => by (exact d_63 q hq hb))⟩ (by omega) (.cons rfl (.cons rfl (.cons rfl (.cons rfl (.cons rfl (.cons rfl (.cons rfl (.cons rfl (.cons rfl (.cons (loI rfl (by first | omega | rfl | (simp <;> omega))) .nil))))))))))
    ·refine xt <| xT <| xK <| xB <| nT <| sq <| ?_
     refine rd [(1, 0), (3, 0), (5, 0)] [0, 1, 2, 3, 4, 5, 6, 7, 8, 9] (by kernel_rfl) (by kernel_rfl) ?_
     refine fw1 rfl (λ _ => fa eF158 rfl) <| fq1 rfl (λ _ x => ld rfl ((BS.later x).one eF159 rfl)) <| fw1 rfl (λ _ => fa eF161 rfl) <| fq1 rfl (λ _ x => ld rfl ((BS.later x).one eF162 rfl)) <| fw1 rfl (λ _ => fa eF164 rfl) <| fq1 rfl (λ _ x => ld rfl ((BS.later x).one eF165 rfl)) <| fw1 rfl (λ _ => as_ rfl) <| fw1 rfl (λ _ => as_ rfl) <| fw1 rfl (λ _ => as_ rfl) <| fw1 rfl (λ _ => as_ rfl) <| fn λ w_122 x_123 => ?_
     have := x_123.size
     have z_122 := eT z_64 x_123
     refine nT <| rt <| tR (.tmp rfl (.tmp rfl (.tmp rfl (.tmp rfl .nil)))) <| ?_
     have OS0 := OS0.later x_123
     have OS1 := OS1.later x_123
     have OS2 := OS2.later x_123
     have ej : j = l.length := by omega
     subst ej
     exact ⟨A0, c0, A1, c1, A2, c2, .inr (.inr ⟨by simpa using h_11, by simpa using h_15, rfl, OS0, OS1, OS2⟩), z_122⟩
end
section
open Go.RowKit
def splE (W : Wd) (l : List Odr) : Int := if ordsE l ≠ 0 then ordsE l else W.chk
theorem splE_zero {W : Wd} {l : List Odr} (h : splE W l = 0) : ordsE l = 0 ∧ W.chk = 0 := by
 unfold splE at h; split at h
 ·rename_i h1; exact absurd h h1
 ·rename_i h1; exact ⟨by simpa using h1, h⟩
theorem splE_len {W : Wd} {l : List Odr} (h : splE W l = 0) : l.length ≤ 100 := (ordsE_zero (splE_zero h).1).1
theorem ordsE_mk {l : List Odr} (h : l.length ≤ 100) (hg : ∀ o ∈ l, o.chk = 0) : ordsE l = 0 := ordsE_ok h λ i hi => hg _ (mem_dd hi)
theorem split_bad (A : Option Addr) (c : Nat) (l : List Odr) (aw : Wd.At) (W : Wd) (w : World) (hl : Odr.rep.SHas 48 w A c l) (hW : Wd.Has w aw W) (h : splE W l ≠ 0) : Calls Try.prog 55 #[.slice A l.length c, .agg (Wd.cells aw W).toArray] w (λ e w' => e = .returned (.tuple #[.slice none 0 0, .slice none 0 0, .slice none 0 0, .int .i64 (splE W l)]) ∧ Ext w w') := by
 refine (split_any A c l aw W w hl hW).mono λ e w' he => ?_
 obtain ⟨A0, c0, A1, c1, A2, c2, (⟨h1, h2⟩ | ⟨h1, h2, h3⟩ | ⟨h1, h2, _⟩), hx⟩ := he
 ·exact ⟨by rw [h2]; unfold splE; rw [if_pos h1], hx⟩
 ·exact ⟨by rw [h3]; unfold splE; rw [if_neg (by simpa using h1)], hx⟩
 ·exact absurd (by unfold splE; rw [if_neg (by simpa using h1)]; exact h2) h
theorem split_ok (A : Option Addr) (c : Nat) (l : List Odr) (aw : Wd.At) (W : Wd) (w : World) (hl : Odr.rep.SHas 48 w A c l) (hW : Wd.Has w aw W) (h : splE W l = 0) : Calls Try.prog 55 #[.slice A l.length c, .agg (Wd.cells aw W).toArray] w (λ e w' => ∃ A0 c0 A1 c1 A2 c2, e = .returned (.tuple #[.slice A0 (splB W l l.length).length c0, .slice A1 (splG W l l.length).length c1, .slice A2 (splD W l l.length).length c2, .int .i64 0]) ∧ Blw.rep.SOwn 193 16 w' w.heap.size (Rep.blkOf A0) A0 c0 (splB W l l.length) ∧ Gox.rep.SOwn 195 24 w' w.heap.size (Rep.blkOf A1) A1 c1 (splG W l l.length) ∧ Ded.rep.SOwn 159 40 w' w.heap.size (Rep.blkOf A2) A2 c2 (splD W l l.length) ∧ Ext w w') := by
 obtain ⟨a1, a2⟩ := splE_zero h
 refine (split_any A c l aw W w hl hW).mono λ e w' he => ?_
 obtain ⟨A0, c0, A1, c1, A2, c2, (⟨h1, h2⟩ | ⟨h1, h2, h3⟩ | ⟨h1, h2, h3, h4, h5, h6⟩), hx⟩ := he
 ·exact absurd a1 h1
 ·exact absurd a2 h2
 ·exact ⟨A0, c0, A1, c1, A2, c2, h3, h4, h5, h6, hx⟩
end
end Go.Proofs.Ytccankldeogdlaa
